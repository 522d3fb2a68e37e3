-- laid by the session's own program (xprint.py) out of Lean's print of the program; Lean checks it
import Derived.Test.YtojinnnckfimhaaX0
import Derived.Test.YtojinnnckfimhaaXperiodNewA
import Derived.Test.YtojinnnckfimhaaXperiodYearStart
import Derived.Test.YtojinnnckfimhaaXperiodlength
import Derived.Test.YtojinnnckfimhaaXperiodYearIndex
import Derived.Test.YtojinnnckfimhaaXstipendlaw04cuts
import Derived.Test.YtojinnnckfimhaaXstipendref03Number
namespace Go.Proofs.Ytojinnnckfimhaa.X
open Go.RowKit Go.Proofs.YtojinnnckfimhaaW.PrintWords Go.Proofs.YtojinnnckfimhaaW.PrintLast
set_option linter.unusedVariables false
set_option linter.unusedSimpArgs false

/-! ### stipendlaw04_PeriodOutside: function 6 -/
def stipendlaw04_PeriodOutside.f (k : Nat) (a0 : Int) (a1_0 : Int) (a1_1 : Int) (a1_2 : Int) (a2_0 : Int) (a2_1 : Int) (a2_2 : Int) : Option (Bool) := (stipendlaw04_cuts.f k).bind fun t720 => (if t720 = true then (if period_New.made a0 a1_0 a1_1 a1_2 = true then ((period_New_A.f k a0 a1_0 a1_1 a1_2).bind fun bt721 => ((period_Year_Index.f k bt721.1 bt721.2.1 bt721.2.2.1 bt721.2.2.2.1 bt721.2.2.2.2.1 bt721.2.2.2.2.2.1 bt721.2.2.2.2.2.2.1 bt721.2.2.2.2.2.2.2.1 bt721.2.2.2.2.2.2.2.2.1 a2_0 a2_1 a2_2).bind fun bt732 => ((stipendref03_Number.f k a2_0 a2_1 a2_2).bind fun t743 => ((stipendref03_Number.f k a1_0 a1_1 a1_2).bind fun t744 => (if t743 < 0 then (if bt732.2.1 = 30 then (some (bt732.1 == 0)) else (none)) else (if t743 < t744 then (if bt732.2.1 = 1 then (some (bt732.1 == 0)) else (none)) else ((period_Year_End.f bt732.2.2.1 bt732.2.2.2.1 bt732.2.2.2.2.1 bt732.2.2.2.2.2.1 bt732.2.2.2.2.2.2.1 bt732.2.2.2.2.2.2.2.1 bt732.2.2.2.2.2.2.2.2.1 bt732.2.2.2.2.2.2.2.2.2.1 bt732.2.2.2.2.2.2.2.2.2.2).bind fun bt745 => ((stipendref03_Number.f k bt745.1 bt745.2.1 bt745.2.2.1).bind fun t757 => (if t743 > t757 then (if bt732.2.1 = 1 then (some (bt732.1 == 0)) else (none)) else (if bt732.2.1 = 0 then (if bt732.1 ≥ 1 then ((period_Year_Count.f bt745.2.2.2.1 bt745.2.2.2.2.1 bt745.2.2.2.2.2.1 bt745.2.2.2.2.2.2.1 bt745.2.2.2.2.2.2.2.1 bt745.2.2.2.2.2.2.2.2.1 bt745.2.2.2.2.2.2.2.2.2.1 bt745.2.2.2.2.2.2.2.2.2.2.1 bt745.2.2.2.2.2.2.2.2.2.2.2).bind fun bt758 => (some (decide (bt732.1 ≤ bt758.1)))) else (none)) else (none))))))))))) else ((period_New_B.f k a0 a1_0 a1_1 a1_2).bind fun t768 => (some true))) else (none))
set_option maxHeartbeats 8000000 in
set_option maxRecDepth 100000 in
theorem stipendlaw04_PeriodOutside.calls (k : Nat) (a0 : Int) (a1_0 : Int) (a1_1 : Int) (a1_2 : Int) (a2_0 : Int) (a2_1 : Int) (a2_2 : Int) (r : Bool) (w : World) (h : stipendlaw04_PeriodOutside.f k a0 a1_0 a1_1 a1_2 a2_0 a2_1 a2_2 = some r) :
  Calls Try.prog 6 #[.int .i64 a0, .agg #[.int .i64 a1_0, .int .i64 a1_1, .int .i64 a1_2], .agg #[.int .i64 a2_0, .int .i64 a2_1, .int .i64 a2_2]] w fun e w' => e = .returned (.bool r) ∧ Below w.heap.size w w' := by
 have hu23 := Try.underlying23
 have HB := a0_ (Below.refl w.heap.size w)
 have H : ((stipendlaw04_cuts.f k).bind fun t720 => (if t720 = true then (if period_New.made a0 a1_0 a1_1 a1_2 = true then ((period_New_A.f k a0 a1_0 a1_1 a1_2).bind fun bt721 => ((period_Year_Index.f k bt721.1 bt721.2.1 bt721.2.2.1 bt721.2.2.2.1 bt721.2.2.2.2.1 bt721.2.2.2.2.2.1 bt721.2.2.2.2.2.2.1 bt721.2.2.2.2.2.2.2.1 bt721.2.2.2.2.2.2.2.2.1 a2_0 a2_1 a2_2).bind fun bt732 => ((stipendref03_Number.f k a2_0 a2_1 a2_2).bind fun t743 => ((stipendref03_Number.f k a1_0 a1_1 a1_2).bind fun t744 => (if t743 < 0 then (if bt732.2.1 = 30 then (some (bt732.1 == 0)) else (none)) else (if t743 < t744 then (if bt732.2.1 = 1 then (some (bt732.1 == 0)) else (none)) else ((period_Year_End.f bt732.2.2.1 bt732.2.2.2.1 bt732.2.2.2.2.1 bt732.2.2.2.2.2.1 bt732.2.2.2.2.2.2.1 bt732.2.2.2.2.2.2.2.1 bt732.2.2.2.2.2.2.2.2.1 bt732.2.2.2.2.2.2.2.2.2.1 bt732.2.2.2.2.2.2.2.2.2.2).bind fun bt745 => ((stipendref03_Number.f k bt745.1 bt745.2.1 bt745.2.2.1).bind fun t757 => (if t743 > t757 then (if bt732.2.1 = 1 then (some (bt732.1 == 0)) else (none)) else (if bt732.2.1 = 0 then (if bt732.1 ≥ 1 then ((period_Year_Count.f bt745.2.2.2.1 bt745.2.2.2.2.1 bt745.2.2.2.2.2.1 bt745.2.2.2.2.2.2.1 bt745.2.2.2.2.2.2.2.1 bt745.2.2.2.2.2.2.2.2.1 bt745.2.2.2.2.2.2.2.2.2.1 bt745.2.2.2.2.2.2.2.2.2.2.1 bt745.2.2.2.2.2.2.2.2.2.2.2).bind fun bt758 => (some (decide (bt732.1 ≤ bt758.1)))) else (none)) else (none))))))))))) else ((period_New_B.f k a0 a1_0 a1_1 a1_2).bind fun t768 => (some true))) else (none))) = some r := h
 clear h
 replace H := oB_ H
 obtain ⟨t720, A40, H⟩ := H
 replace H : (if t720 = true then (if period_New.made a0 a1_0 a1_1 a1_2 = true then ((period_New_A.f k a0 a1_0 a1_1 a1_2).bind fun bt721 => ((period_Year_Index.f k bt721.1 bt721.2.1 bt721.2.2.1 bt721.2.2.2.1 bt721.2.2.2.2.1 bt721.2.2.2.2.2.1 bt721.2.2.2.2.2.2.1 bt721.2.2.2.2.2.2.2.1 bt721.2.2.2.2.2.2.2.2.1 a2_0 a2_1 a2_2).bind fun bt732 => ((stipendref03_Number.f k a2_0 a2_1 a2_2).bind fun t743 => ((stipendref03_Number.f k a1_0 a1_1 a1_2).bind fun t744 => (if t743 < 0 then (if bt732.2.1 = 30 then (some (bt732.1 == 0)) else (none)) else (if t743 < t744 then (if bt732.2.1 = 1 then (some (bt732.1 == 0)) else (none)) else ((period_Year_End.f bt732.2.2.1 bt732.2.2.2.1 bt732.2.2.2.2.1 bt732.2.2.2.2.2.1 bt732.2.2.2.2.2.2.1 bt732.2.2.2.2.2.2.2.1 bt732.2.2.2.2.2.2.2.2.1 bt732.2.2.2.2.2.2.2.2.2.1 bt732.2.2.2.2.2.2.2.2.2.2).bind fun bt745 => ((stipendref03_Number.f k bt745.1 bt745.2.1 bt745.2.2.1).bind fun t757 => (if t743 > t757 then (if bt732.2.1 = 1 then (some (bt732.1 == 0)) else (none)) else (if bt732.2.1 = 0 then (if bt732.1 ≥ 1 then ((period_Year_Count.f bt745.2.2.2.1 bt745.2.2.2.2.1 bt745.2.2.2.2.2.1 bt745.2.2.2.2.2.2.1 bt745.2.2.2.2.2.2.2.1 bt745.2.2.2.2.2.2.2.2.1 bt745.2.2.2.2.2.2.2.2.2.1 bt745.2.2.2.2.2.2.2.2.2.2.1 bt745.2.2.2.2.2.2.2.2.2.2.2).bind fun bt758 => (some (decide (bt732.1 ≤ bt758.1)))) else (none)) else (none))))))))))) else ((period_New_B.f k a0 a1_0 a1_1 a1_2).bind fun t768 => (some true))) else (none)) = some r := H
 have A4 := a0_ A40
 clear A40
 by_cases c5 : t720 = true
 ·subst c5
  have H1 : (if period_New.made a0 a1_0 a1_1 a1_2 = true then ((period_New_A.f k a0 a1_0 a1_1 a1_2).bind fun bt721 => ((period_Year_Index.f k bt721.1 bt721.2.1 bt721.2.2.1 bt721.2.2.2.1 bt721.2.2.2.2.1 bt721.2.2.2.2.2.1 bt721.2.2.2.2.2.2.1 bt721.2.2.2.2.2.2.2.1 bt721.2.2.2.2.2.2.2.2.1 a2_0 a2_1 a2_2).bind fun bt732 => ((stipendref03_Number.f k a2_0 a2_1 a2_2).bind fun t743 => ((stipendref03_Number.f k a1_0 a1_1 a1_2).bind fun t744 => (if t743 < 0 then (if bt732.2.1 = 30 then (some (bt732.1 == 0)) else (none)) else (if t743 < t744 then (if bt732.2.1 = 1 then (some (bt732.1 == 0)) else (none)) else ((period_Year_End.f bt732.2.2.1 bt732.2.2.2.1 bt732.2.2.2.2.1 bt732.2.2.2.2.2.1 bt732.2.2.2.2.2.2.1 bt732.2.2.2.2.2.2.2.1 bt732.2.2.2.2.2.2.2.2.1 bt732.2.2.2.2.2.2.2.2.2.1 bt732.2.2.2.2.2.2.2.2.2.2).bind fun bt745 => ((stipendref03_Number.f k bt745.1 bt745.2.1 bt745.2.2.1).bind fun t757 => (if t743 > t757 then (if bt732.2.1 = 1 then (some (bt732.1 == 0)) else (none)) else (if bt732.2.1 = 0 then (if bt732.1 ≥ 1 then ((period_Year_Count.f bt745.2.2.2.1 bt745.2.2.2.2.1 bt745.2.2.2.2.2.1 bt745.2.2.2.2.2.2.1 bt745.2.2.2.2.2.2.2.1 bt745.2.2.2.2.2.2.2.2.1 bt745.2.2.2.2.2.2.2.2.2.1 bt745.2.2.2.2.2.2.2.2.2.2.1 bt745.2.2.2.2.2.2.2.2.2.2.2).bind fun bt758 => (some (decide (bt732.1 ≤ bt758.1)))) else (none)) else (none))))))))))) else ((period_New_B.f k a0 a1_0 a1_1 a1_2).bind fun t768 => (some true))) = some r := by rw [if_pos rfl] at H; exact H
  clear H
  have H := H1
  clear H1
  by_cases c6 : period_New.made a0 a1_0 a1_1 a1_2 = true
  ·rw [if_pos c6] at H
   have c6b0 : period_New.made a0 a1_0 a1_1 a1_2 = true := c6
   clear c6
   replace H := oB_ H
   obtain ⟨⟨t721, t722, t723, t724, t725, t726, t727, t728, t729, t731⟩, A70, H⟩ := H
   replace H : ((period_Year_Index.f k t721 t722 t723 t724 t725 t726 t727 t728 t729 a2_0 a2_1 a2_2).bind fun bt732 => ((stipendref03_Number.f k a2_0 a2_1 a2_2).bind fun t743 => ((stipendref03_Number.f k a1_0 a1_1 a1_2).bind fun t744 => (if t743 < 0 then (if bt732.2.1 = 30 then (some (bt732.1 == 0)) else (none)) else (if t743 < t744 then (if bt732.2.1 = 1 then (some (bt732.1 == 0)) else (none)) else ((period_Year_End.f bt732.2.2.1 bt732.2.2.2.1 bt732.2.2.2.2.1 bt732.2.2.2.2.2.1 bt732.2.2.2.2.2.2.1 bt732.2.2.2.2.2.2.2.1 bt732.2.2.2.2.2.2.2.2.1 bt732.2.2.2.2.2.2.2.2.2.1 bt732.2.2.2.2.2.2.2.2.2.2).bind fun bt745 => ((stipendref03_Number.f k bt745.1 bt745.2.1 bt745.2.2.1).bind fun t757 => (if t743 > t757 then (if bt732.2.1 = 1 then (some (bt732.1 == 0)) else (none)) else (if bt732.2.1 = 0 then (if bt732.1 ≥ 1 then ((period_Year_Count.f bt745.2.2.2.1 bt745.2.2.2.2.1 bt745.2.2.2.2.2.1 bt745.2.2.2.2.2.2.1 bt745.2.2.2.2.2.2.2.1 bt745.2.2.2.2.2.2.2.2.1 bt745.2.2.2.2.2.2.2.2.2.1 bt745.2.2.2.2.2.2.2.2.2.2.1 bt745.2.2.2.2.2.2.2.2.2.2.2).bind fun bt758 => (some (decide (bt732.1 ≤ bt758.1)))) else (none)) else (none)))))))))) = some r := H
   have A7 := a0_ A70
   clear A70
   replace H := oB_ H
   obtain ⟨⟨t732, t733, t734, t735, t736, t737, t738, t739, t740, t741, t742⟩, A80, H⟩ := H
   replace H : ((stipendref03_Number.f k a2_0 a2_1 a2_2).bind fun t743 => ((stipendref03_Number.f k a1_0 a1_1 a1_2).bind fun t744 => (if t743 < 0 then (if t733 = 30 then (some (t732 == 0)) else (none)) else (if t743 < t744 then (if t733 = 1 then (some (t732 == 0)) else (none)) else ((period_Year_End.f t734 t735 t736 t737 t738 t739 t740 t741 t742).bind fun bt745 => ((stipendref03_Number.f k bt745.1 bt745.2.1 bt745.2.2.1).bind fun t757 => (if t743 > t757 then (if t733 = 1 then (some (t732 == 0)) else (none)) else (if t733 = 0 then (if t732 ≥ 1 then ((period_Year_Count.f bt745.2.2.2.1 bt745.2.2.2.2.1 bt745.2.2.2.2.2.1 bt745.2.2.2.2.2.2.1 bt745.2.2.2.2.2.2.2.1 bt745.2.2.2.2.2.2.2.2.1 bt745.2.2.2.2.2.2.2.2.2.1 bt745.2.2.2.2.2.2.2.2.2.2.1 bt745.2.2.2.2.2.2.2.2.2.2.2).bind fun bt758 => (some (decide (t732 ≤ bt758.1)))) else (none)) else (none))))))))) = some r := H
   have A8 := a0_ A80
   clear A80
   replace H := oB_ H
   obtain ⟨t743, A90, H⟩ := H
   replace H : ((stipendref03_Number.f k a1_0 a1_1 a1_2).bind fun t744 => (if t743 < 0 then (if t733 = 30 then (some (t732 == 0)) else (none)) else (if t743 < t744 then (if t733 = 1 then (some (t732 == 0)) else (none)) else ((period_Year_End.f t734 t735 t736 t737 t738 t739 t740 t741 t742).bind fun bt745 => ((stipendref03_Number.f k bt745.1 bt745.2.1 bt745.2.2.1).bind fun t757 => (if t743 > t757 then (if t733 = 1 then (some (t732 == 0)) else (none)) else (if t733 = 0 then (if t732 ≥ 1 then ((period_Year_Count.f bt745.2.2.2.1 bt745.2.2.2.2.1 bt745.2.2.2.2.2.1 bt745.2.2.2.2.2.2.1 bt745.2.2.2.2.2.2.2.1 bt745.2.2.2.2.2.2.2.2.1 bt745.2.2.2.2.2.2.2.2.2.1 bt745.2.2.2.2.2.2.2.2.2.2.1 bt745.2.2.2.2.2.2.2.2.2.2.2).bind fun bt758 => (some (decide (t732 ≤ bt758.1)))) else (none)) else (none)))))))) = some r := H
   have A9 := a0_ A90
   clear A90
   replace H := oB_ H
   obtain ⟨t744, A100, H⟩ := H
   replace H : (if t743 < 0 then (if t733 = 30 then (some (t732 == 0)) else (none)) else (if t743 < t744 then (if t733 = 1 then (some (t732 == 0)) else (none)) else ((period_Year_End.f t734 t735 t736 t737 t738 t739 t740 t741 t742).bind fun bt745 => ((stipendref03_Number.f k bt745.1 bt745.2.1 bt745.2.2.1).bind fun t757 => (if t743 > t757 then (if t733 = 1 then (some (t732 == 0)) else (none)) else (if t733 = 0 then (if t732 ≥ 1 then ((period_Year_Count.f bt745.2.2.2.1 bt745.2.2.2.2.1 bt745.2.2.2.2.2.1 bt745.2.2.2.2.2.2.1 bt745.2.2.2.2.2.2.2.1 bt745.2.2.2.2.2.2.2.2.1 bt745.2.2.2.2.2.2.2.2.2.1 bt745.2.2.2.2.2.2.2.2.2.2.1 bt745.2.2.2.2.2.2.2.2.2.2.2).bind fun bt758 => (some (decide (t732 ≤ bt758.1)))) else (none)) else (none))))))) = some r := H
   have A10 := a0_ A100
   clear A100
   by_cases c11 : t743 < 0
   ·rw [if_pos c11] at H
    have c11b0 : decide (t743 < 0) = true := decide_eq_true c11
    clear c11
    by_cases c12 : t733 = 30
    ·rw [if_pos c12] at H
     have c12b0 : (t733 == 30) = true := beq_iff_eq.mpr c12
     have c12b1 : (t733 != 30) = false := bne_eq_false_iff_eq.mpr c12
     clear c12
     obtain rfl := Option.some.inj H
     go_enter Try.func6, Try.ntmps6
     try go_wp2_with (first | ((with_reducible refine gate_dst (N := 4) rfl ?_); refine box_event ?hg (N := 4) ?hd (cs := #[.int .i64 a1_0, .int .i64 a1_1, .int .i64 a1_2]) (t := 23) ?hr ?_; (case hd => rfl); (case hg => rfl); (case hr => first | (go_simp; done) | (go_simp; rfl)); intro gb718 hg w13 hbox hb; have n0_ := a0_ (below_step (by repeat (first | (with_reducible first | exact HB.out | apply lA_ | apply lN_ | apply lD_) | exact HB.out)) hb); have n1_ := a0_ (hbox); have n2_ := a0_ ((by rw [hg]; exact (below_size (by repeat (first | (with_reducible first | exact HB.out | apply lA_ | apply lN_ | apply lD_) | exact HB.out))) : w.heap.size ≤ gb718)); have n3_ := a0_ ((by rw [hg]; exact (below_size (by repeat (first | (with_reducible first | exact HB.out | apply lA_ | apply lN_ | apply lD_) | exact HB.out))) : w.heap.size ≤ gb718)); clear HB; have HB := n0_; have BK718 := n1_; have GW718 := n2_; have GE718 := n3_; clear n0_ n1_ n2_ n3_; clear hb hbox hg) | ((with_reducible refine gate_dst (N := 5) rfl ?_); refine box_event ?hg (N := 5) ?hd (cs := #[.int .i64 a2_0, .int .i64 a2_1, .int .i64 a2_2]) (t := 23) ?hr ?_; (case hd => rfl); (case hg => rfl); (case hr => first | (go_simp; done) | (go_simp; rfl)); intro gb719 hg w14 hbox hb; have n0_ := a0_ (bB_ (g := gb718) (o := .cells #[.int .i64 a1_0, .int .i64 a1_1, .int .i64 a1_2] 23 (0, 0)) (by (with_reducible repeat first | apply bN_ | apply bD_ | apply bA_); exact BK718.out) hb); have n1_ := a0_ (below_step (by repeat (first | (with_reducible first | exact HB.out | apply lA_ | apply lN_ | apply lD_ | refine lS_ ?_ GE718.out) | exact HB.out)) hb); have n2_ := a0_ (hbox); have n3_ := a0_ ((by rw [hg]; exact (below_size (by repeat (first | (with_reducible first | exact HB.out | apply lA_ | apply lN_ | apply lD_ | refine lS_ ?_ GE718.out) | exact HB.out))) : w.heap.size ≤ gb719)); have n4_ := a0_ ((by rw [hg]; exact (below_size (by repeat (first | (with_reducible first | exact HB.out | apply lA_ | apply lN_ | apply lD_ | refine lS_ ?_ GE718.out) | exact HB.out))) : w.heap.size ≤ gb719)); have n5_ := a0_ ((by rw [hg]; exact Nat.ne_of_lt (blk_lt (g := gb718) (o := .cells #[.int .i64 a1_0, .int .i64 a1_1, .int .i64 a1_2] 23 (0, 0)) (by (with_reducible repeat first | apply bN_ | apply bD_ | apply bA_); exact BK718.out)) : gb718 ≠ gb719)); have n6_ := a0_ ((by rw [hg]; exact Nat.ne_of_gt (blk_lt (g := gb718) (o := .cells #[.int .i64 a1_0, .int .i64 a1_1, .int .i64 a1_2] 23 (0, 0)) (by (with_reducible repeat first | apply bN_ | apply bD_ | apply bA_); exact BK718.out)) : gb719 ≠ gb718)); clear BK718; clear HB; have BK718 := n0_; have HB := n1_; have BK719 := n2_; have GW719 := n3_; have GE719 := n4_; have NB718_719 := n5_; have NB719_718 := n6_; clear n0_ n1_ n2_ n3_ n4_ n5_ n6_; clear hb hbox hg) | ((with_reducible refine gate_callee (f := 20) rfl ?_); refine goesL_ (some 13) rfl rfl Try.func20 (by kernel_rfl) rfl #[] rfl (by (try simp only [List.map_toArray, List.map_cons, List.map_nil]); first | done | rfl) ?_; (with_reducible refine (stipendlaw04_cuts.calls k  true _ A4.out).mono ?_); rintro e w15 ⟨rfl, hb⟩; refine ⟨_, rfl, ?_⟩; have n0_ := a0_ (bB_ (g := gb718) (o := .cells #[.int .i64 a1_0, .int .i64 a1_1, .int .i64 a1_2] 23 (0, 0)) (by (with_reducible repeat first | apply bN_ | apply bD_ | apply bA_); exact BK718.out) hb); have n1_ := a0_ (bB_ (g := gb719) (o := .cells #[.int .i64 a2_0, .int .i64 a2_1, .int .i64 a2_2] 23 (0, 0)) (by (with_reducible repeat first | apply bN_ | apply bD_ | apply bA_); exact BK719.out) hb); have n2_ := a0_ (below_step (by repeat (first | (with_reducible first | exact HB.out | apply lA_ | apply lN_ | apply lD_ | refine lS_ ?_ GE718.out | refine lS_ ?_ GE719.out) | exact HB.out)) hb); clear BK718; clear BK719; clear HB; have BK718 := n0_; have BK719 := n1_; have HB := n2_; clear n0_ n1_ n2_; (try clear hb); (try clear hb2); (try clear hk); (try clear hi); have hnb16 := NB718_719.out; have hnc16 := NB719_718.out; have hcz17_0 : w15.cell? ⟨gb718, 0, none⟩ = some (.int .i64 a1_0) := (bC_ BK718.out 0).trans rfl; have hcz17_1 : w15.cell? ⟨gb718, 1, none⟩ = some (.int .i64 a1_1) := (bC_ BK718.out 1).trans rfl; have hcz17_2 : w15.cell? ⟨gb718, 2, none⟩ = some (.int .i64 a1_2) := (bC_ BK718.out 2).trans rfl; have hfz17_0 := bF_ BK718.out 0; have hfz17_1 := bF_ BK718.out 1; have hfz17_2 := bF_ BK718.out 2) | ((with_reducible refine gate_callee (f := 12) rfl ?_); refine goesL_ (some 18) rfl rfl Try.func12 (by kernel_rfl) rfl #[.int .i64 a0, .agg #[.int .i64 a1_0, .int .i64 a1_1, .int .i64 a1_2]] rfl (by (try simp only [List.map_toArray, List.map_cons, List.map_nil]); first | done | rfl) ?_; (with_reducible refine (period_New_A.calls k a0 a1_0 a1_1 a1_2 t721 t722 t723 t724 t725 t726 t727 t728 t729 t731 w _ ?side1 A7.out).mono ?_); (case side1 => repeat (first | (with_reducible first | exact HB.out | apply lA_ | apply lN_ | apply lD_ | refine lS_ ?_ GE718.out | refine lS_ ?_ GE719.out) | exact HB.out)); rintro e w18 ⟨g730, rfl, hi, hb, hb2, hge⟩; refine ⟨_, rfl, ?_⟩; have n0_ := a0_ (bB_ (g := gb718) (o := .cells #[.int .i64 a1_0, .int .i64 a1_1, .int .i64 a1_2] 23 (0, 0)) (by (with_reducible repeat first | apply bN_ | apply bD_ | apply bA_); exact BK718.out) hb2); have n1_ := a0_ (bB_ (g := gb719) (o := .cells #[.int .i64 a2_0, .int .i64 a2_1, .int .i64 a2_2] 23 (0, 0)) (by (with_reducible repeat first | apply bN_ | apply bD_ | apply bA_); exact BK719.out) hb2); have n2_ := a0_ (hb); have n3_ := a0_ (hi); have n4_ := a0_ (IsS62.ne_blk hi (bB_ (g := gb718) (o := .cells #[.int .i64 a1_0, .int .i64 a1_1, .int .i64 a1_2] 23 (0, 0)) (by (with_reducible repeat first | apply bN_ | apply bD_ | apply bA_); exact BK718.out) hb2) (by decide)); have n5_ := a0_ (Ne.symm (IsS62.ne_blk hi (bB_ (g := gb718) (o := .cells #[.int .i64 a1_0, .int .i64 a1_1, .int .i64 a1_2] 23 (0, 0)) (by (with_reducible repeat first | apply bN_ | apply bD_ | apply bA_); exact BK718.out) hb2) (by decide))); have n6_ := a0_ (IsS62.ne_blk hi (bB_ (g := gb719) (o := .cells #[.int .i64 a2_0, .int .i64 a2_1, .int .i64 a2_2] 23 (0, 0)) (by (with_reducible repeat first | apply bN_ | apply bD_ | apply bA_); exact BK719.out) hb2) (by decide)); have n7_ := a0_ (Ne.symm (IsS62.ne_blk hi (bB_ (g := gb719) (o := .cells #[.int .i64 a2_0, .int .i64 a2_1, .int .i64 a2_2] 23 (0, 0)) (by (with_reducible repeat first | apply bN_ | apply bD_ | apply bA_); exact BK719.out) hb2) (by decide))); clear BK718; clear BK719; clear HB; have BK718 := n0_; have BK719 := n1_; have HB := n2_; have HI730 := n3_; have NB730_718 := n4_; have NB718_730 := n5_; have NB730_719 := n6_; have NB719_730 := n7_; clear n0_ n1_ n2_ n3_ n4_ n5_ n6_ n7_; (try clear hb); (try clear hb2); (try clear hk); (try clear hi); have hnb19 := NB719_730.out; have hnc19 := NB730_719.out; have hcz20_0 : w18.cell? ⟨gb719, 0, none⟩ = some (.int .i64 a2_0) := (bC_ BK719.out 0).trans rfl; have hcz20_1 : w18.cell? ⟨gb719, 1, none⟩ = some (.int .i64 a2_1) := (bC_ BK719.out 1).trans rfl; have hcz20_2 : w18.cell? ⟨gb719, 2, none⟩ = some (.int .i64 a2_2) := (bC_ BK719.out 2).trans rfl; have hfz20_0 := bF_ BK719.out 0; have hfz20_1 := bF_ BK719.out 1; have hfz20_2 := bF_ BK719.out 2) | ((with_reducible refine gate_callee (f := 14) rfl ?_); refine goesL_ (some 26) rfl rfl Try.func14 (by kernel_rfl) rfl #[.pointer (some ⟨g730, 0, none⟩), .agg #[.int .i64 a2_0, .int .i64 a2_1, .int .i64 a2_2]] rfl (by (try simp only [List.map_toArray, List.map_cons, List.map_nil]); first | done | rfl) ?_; (with_reducible refine (period_Year_Index.calls k g730 t721 t722 t723 t724 t725 t726 t727 t728 t729 a2_0 a2_1 a2_2 t732 t733 t734 t735 t736 t737 t738 t739 t740 t741 t742 w _ ?side1 ?side2 A8.out).mono ?_); (case side1 => repeat (first | (with_reducible first | exact HI730.out | apply sA_ | apply sN_ | apply sD_ | refine sF_ ?_ NB730_718.out _ | refine sF_ ?_ NB730_719.out _) | exact HI730.out)); (case side2 => repeat (first | (with_reducible first | exact HB.out | apply lA_ | apply lN_ | apply lD_ | refine lS_ ?_ (sG_ HI730.out) | refine lS_ ?_ GE718.out | refine lS_ ?_ GE719.out) | exact HB.out)); rintro e w21 ⟨rfl, hi, hb, hk⟩; refine ⟨_, rfl, ?_⟩; have n0_ := a0_ (KeepBut.blk hk (g' := gb718) (o := .cells #[.int .i64 a1_0, .int .i64 a1_1, .int .i64 a1_2] 23 (0, 0)) (by (with_reducible repeat first | apply bN_ | apply bD_ | apply bA_); exact BK718.out) NB718_730.out (by simp)); have n1_ := a0_ (KeepBut.blk hk (g' := gb719) (o := .cells #[.int .i64 a2_0, .int .i64 a2_1, .int .i64 a2_2] 23 (0, 0)) (by (with_reducible repeat first | apply bN_ | apply bD_ | apply bA_); exact BK719.out) NB719_730.out (by simp)); have n2_ := a0_ (hb); have n3_ := a0_ (hi); clear BK718; clear BK719; clear HB; clear HI730; have BK718 := n0_; have BK719 := n1_; have HB := n2_; have HI730 := n3_; clear n0_ n1_ n2_ n3_; (try clear hb); (try clear hb2); (try clear hk); (try clear hi)))
     have n0_ := a0_ (bD_ BK718.out)
     have n1_ := a0_ (bD_ BK719.out)
     have n2_ := a0_ (sD_ HI730.out)
     have n3_ := a0_ (lD_ HB.out)
     clear BK718
     clear BK719
     clear HI730
     clear HB
     have BK718 := n0_
     have BK719 := n1_
     have HI730 := n2_
     have HB := n3_
     clear n0_ n1_ n2_ n3_
     refine start_ (n := 6) (S := fun w' => w'.cell? ⟨gb719, 0, none⟩ = some (.int .i64 a2_0) ∧ w'.cell? ⟨gb719, 1, none⟩ = some (.int .i64 a2_1) ∧ w'.cell? ⟨gb719, 2, none⟩ = some (.int .i64 a2_2) ∧ w'.cell? ⟨gb718, 0, none⟩ = some (.int .i64 a1_0) ∧ w'.cell? ⟨gb718, 1, none⟩ = some (.int .i64 a1_1) ∧ w'.cell? ⟨gb718, 2, none⟩ = some (.int .i64 a1_2)) (ds := []) #[false, false, false, false, false, false] (by kernel_rfl) rfl rfl ⟨(bC_ BK719.out 0).trans rfl, (bC_ BK719.out 1).trans rfl, (bC_ BK719.out 2).trans rfl, (bC_ BK718.out 0).trans rfl, (bC_ BK718.out 1).trans rfl, (bC_ BK718.out 2).trans rfl⟩ (fun hHeld => ?_)
     generalize w21.drew = w22 at BK718 BK719 HI730 HB hHeld ⊢
     refine take_ (i := 0) (N := some 29) (v := ?_) (a' := ?_) #[true, false, false, false, false, false] rfl rfl (by kernel_rfl) (fun _ _ _ h => h) (Or.inl ⟨by rfl, ?_⟩) hHeld ?_ ?_
     rotate_left
     ·rintro w' ⟨s0, s1, s2, s3, s4, s5⟩
      go_simp
      with_reducible rfl
     rotate_left
     ·simp only [Act.put, zA_, zB_, zC_, i64_w, i32_w]
      rfl
     refine take_ (i := 2) (N := some 31) (v := ?_) (a' := ?_) #[true, false, true, false, false, false] rfl rfl (by kernel_rfl) (fun _ _ _ h => h) (Or.inl ⟨by rfl, ?_⟩) hHeld ?_ ?_
     rotate_left
     ·rintro w' ⟨s0, s1, s2, s3, s4, s5⟩
      go_simp
      with_reducible rfl
     rotate_left
     ·simp only [Act.put, zA_, zB_, zC_, i64_w, i32_w]
      rfl
     refine one_ (i := 1) (N := some 30) #[true, true, true, false, false, false] rfl rfl (by kernel_rfl) (by decide) (fun K hK => ?_)
     refine goes_ Try.func23 (by kernel_rfl) rfl #[.agg #[.int .i64 a2_0, .int .i64 a2_1, .int .i64 a2_2]] (by rfl) rfl rfl (by (try simp only [List.map_toArray, List.map_cons, List.map_nil]); first | done | rfl) ?_
     with_reducible refine (stipendref03_Number.calls k a2_0 a2_1 a2_2 t743 _ A9.out).mono ?_
     rintro e w23 ⟨rfl, hb⟩
     refine ⟨_, rfl, ?_⟩
     have n0_ := a0_ (bB_ (g := gb718) (o := .cells #[.int .i64 a1_0, .int .i64 a1_1, .int .i64 a1_2] 23 (0, 0)) (by (with_reducible repeat first | apply bN_ | apply bD_ | apply bA_); exact BK718.out) hb)
     have n1_ := a0_ (bB_ (g := gb719) (o := .cells #[.int .i64 a2_0, .int .i64 a2_1, .int .i64 a2_2] 23 (0, 0)) (by (with_reducible repeat first | apply bN_ | apply bD_ | apply bA_); exact BK719.out) hb)
     have n2_ := a0_ (IsS62.below (by repeat (first | (with_reducible first | exact HI730.out | apply sA_ | apply sN_ | apply sD_ | refine sF_ ?_ NB730_718.out _ | refine sF_ ?_ NB730_719.out _) | exact HI730.out)) hb)
     have n3_ := a0_ (below_step (by repeat (first | (with_reducible first | exact HB.out | apply lA_ | apply lN_ | apply lD_ | refine lS_ ?_ (sG_ HI730.out) | refine lS_ ?_ GE718.out | refine lS_ ?_ GE719.out) | exact HB.out)) hb)
     clear BK718
     clear BK719
     clear HI730
     clear HB
     have BK718 := n0_
     have BK719 := n1_
     have HI730 := n2_
     have HB := n3_
     clear n0_ n1_ n2_ n3_
     (try clear hb)
     (try clear hb2)
     (try clear hk)
     (try clear hi)
     refine hK.out _ _ ⟨(bC_ BK719.out 0).trans rfl, (bC_ BK719.out 1).trans rfl, (bC_ BK719.out 2).trans rfl, (bC_ BK718.out 0).trans rfl, (bC_ BK718.out 1).trans rfl, (bC_ BK718.out 2).trans rfl⟩ (fun hHeld => ?_)
     clear hK K
     refine norm_ (a' := ?_) ?_ ?_
     rotate_left
     ·show Act.put _ (some 30) _ = _
      simp only [Act.put, zA_, zB_, zC_, i64_w, i32_w]
      rfl
     refine one_ (i := 3) (N := some 32) #[true, true, true, true, false, false] rfl rfl (by kernel_rfl) (by decide) (fun K hK => ?_)
     refine goes_ Try.func23 (by kernel_rfl) rfl #[.agg #[.int .i64 a1_0, .int .i64 a1_1, .int .i64 a1_2]] (by rfl) rfl rfl (by (try simp only [List.map_toArray, List.map_cons, List.map_nil]); first | done | rfl) ?_
     with_reducible refine (stipendref03_Number.calls k a1_0 a1_1 a1_2 t744 _ A10.out).mono ?_
     rintro e w24 ⟨rfl, hb⟩
     refine ⟨_, rfl, ?_⟩
     have n0_ := a0_ (bB_ (g := gb718) (o := .cells #[.int .i64 a1_0, .int .i64 a1_1, .int .i64 a1_2] 23 (0, 0)) (by (with_reducible repeat first | apply bN_ | apply bD_ | apply bA_); exact BK718.out) hb)
     have n1_ := a0_ (bB_ (g := gb719) (o := .cells #[.int .i64 a2_0, .int .i64 a2_1, .int .i64 a2_2] 23 (0, 0)) (by (with_reducible repeat first | apply bN_ | apply bD_ | apply bA_); exact BK719.out) hb)
     have n2_ := a0_ (IsS62.below (by repeat (first | (with_reducible first | exact HI730.out | apply sA_ | apply sN_ | apply sD_ | refine sF_ ?_ NB730_718.out _ | refine sF_ ?_ NB730_719.out _) | exact HI730.out)) hb)
     have n3_ := a0_ (below_step (by repeat (first | (with_reducible first | exact HB.out | apply lA_ | apply lN_ | apply lD_ | refine lS_ ?_ (sG_ HI730.out) | refine lS_ ?_ GE718.out | refine lS_ ?_ GE719.out) | exact HB.out)) hb)
     clear BK718
     clear BK719
     clear HI730
     clear HB
     have BK718 := n0_
     have BK719 := n1_
     have HI730 := n2_
     have HB := n3_
     clear n0_ n1_ n2_ n3_
     (try clear hb)
     (try clear hb2)
     (try clear hk)
     (try clear hi)
     refine hK.out _ _ ⟨(bC_ BK719.out 0).trans rfl, (bC_ BK719.out 1).trans rfl, (bC_ BK719.out 2).trans rfl, (bC_ BK718.out 0).trans rfl, (bC_ BK718.out 1).trans rfl, (bC_ BK718.out 2).trans rfl⟩ (fun hHeld => ?_)
     clear hK K
     refine norm_ (a' := ?_) ?_ ?_
     rotate_left
     ·show Act.put _ (some 32) _ = _
      simp only [Act.put, zA_, zB_, zC_, i64_w, i32_w]
      rfl
     refine pure_ (i := 4) (N := some 11) (v := ?_) (a' := ?_) #[true, true, true, true, true, false] rfl rfl (by kernel_rfl) (fun _ _ _ h => h) (Or.inl ⟨by rfl, ?_⟩) ?_ ?_
     rotate_left
     ·intro w'
      go_simp
      with_reducible rfl
     rotate_left
     ·simp only [Act.put, zA_, zB_, zC_, i64_w, i32_w]
      rfl
     refine pure_ (i := 5) (N := some 12) (v := ?_) (a' := ?_) #[true, true, true, true, true, true] rfl rfl (by kernel_rfl) (fun _ _ _ h => h) (Or.inl ⟨by rfl, ?_⟩) ?_ ?_
     rotate_left
     ·intro w'
      go_simp
      with_reducible rfl
     rotate_left
     ·simp only [Act.put, zA_, zB_, zC_, i64_w, i32_w]
      rfl
     refine done_ (by kernel_rfl) ?_
     try go_wp2
     go_ret
     exact ⟨by first | rfl | (simp [errW_none, errW_some] <;> rfl) | (simp [*, errW_none, errW_some] <;> rfl), by repeat (first | (with_reducible first | exact HB.out | apply lA_ | apply lN_ | apply lD_ | refine lS_ ?_ (sG_ HI730.out) | refine lS_ ?_ GE718.out | refine lS_ ?_ GE719.out) | exact HB.out)⟩
    ·rw [if_neg c12] at H
     exact absurd H (by simp)
   ·rw [if_neg c11] at H
    have c11b0 : decide (t743 < 0) = false := decide_eq_false c11
    clear c11
    by_cases c25 : t743 < t744
    ·rw [if_pos c25] at H
     have c25b0 : decide (t743 < t744) = true := decide_eq_true c25
     clear c25
     by_cases c26 : t733 = 1
     ·rw [if_pos c26] at H
      have c26b0 : (t733 == 1) = true := beq_iff_eq.mpr c26
      have c26b1 : (t733 != 1) = false := bne_eq_false_iff_eq.mpr c26
      clear c26
      obtain rfl := Option.some.inj H
      go_enter Try.func6, Try.ntmps6
      try go_wp2_with (first | ((with_reducible refine gate_dst (N := 4) rfl ?_); refine box_event ?hg (N := 4) ?hd (cs := #[.int .i64 a1_0, .int .i64 a1_1, .int .i64 a1_2]) (t := 23) ?hr ?_; (case hd => rfl); (case hg => rfl); (case hr => first | (go_simp; done) | (go_simp; rfl)); intro gb718 hg w27 hbox hb; have n0_ := a0_ (below_step (by repeat (first | (with_reducible first | exact HB.out | apply lA_ | apply lN_ | apply lD_) | exact HB.out)) hb); have n1_ := a0_ (hbox); have n2_ := a0_ ((by rw [hg]; exact (below_size (by repeat (first | (with_reducible first | exact HB.out | apply lA_ | apply lN_ | apply lD_) | exact HB.out))) : w.heap.size ≤ gb718)); have n3_ := a0_ ((by rw [hg]; exact (below_size (by repeat (first | (with_reducible first | exact HB.out | apply lA_ | apply lN_ | apply lD_) | exact HB.out))) : w.heap.size ≤ gb718)); clear HB; have HB := n0_; have BK718 := n1_; have GW718 := n2_; have GE718 := n3_; clear n0_ n1_ n2_ n3_; clear hb hbox hg) | ((with_reducible refine gate_dst (N := 5) rfl ?_); refine box_event ?hg (N := 5) ?hd (cs := #[.int .i64 a2_0, .int .i64 a2_1, .int .i64 a2_2]) (t := 23) ?hr ?_; (case hd => rfl); (case hg => rfl); (case hr => first | (go_simp; done) | (go_simp; rfl)); intro gb719 hg w28 hbox hb; have n0_ := a0_ (bB_ (g := gb718) (o := .cells #[.int .i64 a1_0, .int .i64 a1_1, .int .i64 a1_2] 23 (0, 0)) (by (with_reducible repeat first | apply bN_ | apply bD_ | apply bA_); exact BK718.out) hb); have n1_ := a0_ (below_step (by repeat (first | (with_reducible first | exact HB.out | apply lA_ | apply lN_ | apply lD_ | refine lS_ ?_ GE718.out) | exact HB.out)) hb); have n2_ := a0_ (hbox); have n3_ := a0_ ((by rw [hg]; exact (below_size (by repeat (first | (with_reducible first | exact HB.out | apply lA_ | apply lN_ | apply lD_ | refine lS_ ?_ GE718.out) | exact HB.out))) : w.heap.size ≤ gb719)); have n4_ := a0_ ((by rw [hg]; exact (below_size (by repeat (first | (with_reducible first | exact HB.out | apply lA_ | apply lN_ | apply lD_ | refine lS_ ?_ GE718.out) | exact HB.out))) : w.heap.size ≤ gb719)); have n5_ := a0_ ((by rw [hg]; exact Nat.ne_of_lt (blk_lt (g := gb718) (o := .cells #[.int .i64 a1_0, .int .i64 a1_1, .int .i64 a1_2] 23 (0, 0)) (by (with_reducible repeat first | apply bN_ | apply bD_ | apply bA_); exact BK718.out)) : gb718 ≠ gb719)); have n6_ := a0_ ((by rw [hg]; exact Nat.ne_of_gt (blk_lt (g := gb718) (o := .cells #[.int .i64 a1_0, .int .i64 a1_1, .int .i64 a1_2] 23 (0, 0)) (by (with_reducible repeat first | apply bN_ | apply bD_ | apply bA_); exact BK718.out)) : gb719 ≠ gb718)); clear BK718; clear HB; have BK718 := n0_; have HB := n1_; have BK719 := n2_; have GW719 := n3_; have GE719 := n4_; have NB718_719 := n5_; have NB719_718 := n6_; clear n0_ n1_ n2_ n3_ n4_ n5_ n6_; clear hb hbox hg) | ((with_reducible refine gate_callee (f := 20) rfl ?_); refine goesL_ (some 13) rfl rfl Try.func20 (by kernel_rfl) rfl #[] rfl (by (try simp only [List.map_toArray, List.map_cons, List.map_nil]); first | done | rfl) ?_; (with_reducible refine (stipendlaw04_cuts.calls k  true _ A4.out).mono ?_); rintro e w29 ⟨rfl, hb⟩; refine ⟨_, rfl, ?_⟩; have n0_ := a0_ (bB_ (g := gb718) (o := .cells #[.int .i64 a1_0, .int .i64 a1_1, .int .i64 a1_2] 23 (0, 0)) (by (with_reducible repeat first | apply bN_ | apply bD_ | apply bA_); exact BK718.out) hb); have n1_ := a0_ (bB_ (g := gb719) (o := .cells #[.int .i64 a2_0, .int .i64 a2_1, .int .i64 a2_2] 23 (0, 0)) (by (with_reducible repeat first | apply bN_ | apply bD_ | apply bA_); exact BK719.out) hb); have n2_ := a0_ (below_step (by repeat (first | (with_reducible first | exact HB.out | apply lA_ | apply lN_ | apply lD_ | refine lS_ ?_ GE718.out | refine lS_ ?_ GE719.out) | exact HB.out)) hb); clear BK718; clear BK719; clear HB; have BK718 := n0_; have BK719 := n1_; have HB := n2_; clear n0_ n1_ n2_; (try clear hb); (try clear hb2); (try clear hk); (try clear hi); have hnb30 := NB718_719.out; have hnc30 := NB719_718.out; have hcz31_0 : w29.cell? ⟨gb718, 0, none⟩ = some (.int .i64 a1_0) := (bC_ BK718.out 0).trans rfl; have hcz31_1 : w29.cell? ⟨gb718, 1, none⟩ = some (.int .i64 a1_1) := (bC_ BK718.out 1).trans rfl; have hcz31_2 : w29.cell? ⟨gb718, 2, none⟩ = some (.int .i64 a1_2) := (bC_ BK718.out 2).trans rfl; have hfz31_0 := bF_ BK718.out 0; have hfz31_1 := bF_ BK718.out 1; have hfz31_2 := bF_ BK718.out 2) | ((with_reducible refine gate_callee (f := 12) rfl ?_); refine goesL_ (some 18) rfl rfl Try.func12 (by kernel_rfl) rfl #[.int .i64 a0, .agg #[.int .i64 a1_0, .int .i64 a1_1, .int .i64 a1_2]] rfl (by (try simp only [List.map_toArray, List.map_cons, List.map_nil]); first | done | rfl) ?_; (with_reducible refine (period_New_A.calls k a0 a1_0 a1_1 a1_2 t721 t722 t723 t724 t725 t726 t727 t728 t729 t731 w _ ?side1 A7.out).mono ?_); (case side1 => repeat (first | (with_reducible first | exact HB.out | apply lA_ | apply lN_ | apply lD_ | refine lS_ ?_ GE718.out | refine lS_ ?_ GE719.out) | exact HB.out)); rintro e w32 ⟨g730, rfl, hi, hb, hb2, hge⟩; refine ⟨_, rfl, ?_⟩; have n0_ := a0_ (bB_ (g := gb718) (o := .cells #[.int .i64 a1_0, .int .i64 a1_1, .int .i64 a1_2] 23 (0, 0)) (by (with_reducible repeat first | apply bN_ | apply bD_ | apply bA_); exact BK718.out) hb2); have n1_ := a0_ (bB_ (g := gb719) (o := .cells #[.int .i64 a2_0, .int .i64 a2_1, .int .i64 a2_2] 23 (0, 0)) (by (with_reducible repeat first | apply bN_ | apply bD_ | apply bA_); exact BK719.out) hb2); have n2_ := a0_ (hb); have n3_ := a0_ (hi); have n4_ := a0_ (IsS62.ne_blk hi (bB_ (g := gb718) (o := .cells #[.int .i64 a1_0, .int .i64 a1_1, .int .i64 a1_2] 23 (0, 0)) (by (with_reducible repeat first | apply bN_ | apply bD_ | apply bA_); exact BK718.out) hb2) (by decide)); have n5_ := a0_ (Ne.symm (IsS62.ne_blk hi (bB_ (g := gb718) (o := .cells #[.int .i64 a1_0, .int .i64 a1_1, .int .i64 a1_2] 23 (0, 0)) (by (with_reducible repeat first | apply bN_ | apply bD_ | apply bA_); exact BK718.out) hb2) (by decide))); have n6_ := a0_ (IsS62.ne_blk hi (bB_ (g := gb719) (o := .cells #[.int .i64 a2_0, .int .i64 a2_1, .int .i64 a2_2] 23 (0, 0)) (by (with_reducible repeat first | apply bN_ | apply bD_ | apply bA_); exact BK719.out) hb2) (by decide)); have n7_ := a0_ (Ne.symm (IsS62.ne_blk hi (bB_ (g := gb719) (o := .cells #[.int .i64 a2_0, .int .i64 a2_1, .int .i64 a2_2] 23 (0, 0)) (by (with_reducible repeat first | apply bN_ | apply bD_ | apply bA_); exact BK719.out) hb2) (by decide))); clear BK718; clear BK719; clear HB; have BK718 := n0_; have BK719 := n1_; have HB := n2_; have HI730 := n3_; have NB730_718 := n4_; have NB718_730 := n5_; have NB730_719 := n6_; have NB719_730 := n7_; clear n0_ n1_ n2_ n3_ n4_ n5_ n6_ n7_; (try clear hb); (try clear hb2); (try clear hk); (try clear hi); have hnb33 := NB719_730.out; have hnc33 := NB730_719.out; have hcz34_0 : w32.cell? ⟨gb719, 0, none⟩ = some (.int .i64 a2_0) := (bC_ BK719.out 0).trans rfl; have hcz34_1 : w32.cell? ⟨gb719, 1, none⟩ = some (.int .i64 a2_1) := (bC_ BK719.out 1).trans rfl; have hcz34_2 : w32.cell? ⟨gb719, 2, none⟩ = some (.int .i64 a2_2) := (bC_ BK719.out 2).trans rfl; have hfz34_0 := bF_ BK719.out 0; have hfz34_1 := bF_ BK719.out 1; have hfz34_2 := bF_ BK719.out 2) | ((with_reducible refine gate_callee (f := 14) rfl ?_); refine goesL_ (some 26) rfl rfl Try.func14 (by kernel_rfl) rfl #[.pointer (some ⟨g730, 0, none⟩), .agg #[.int .i64 a2_0, .int .i64 a2_1, .int .i64 a2_2]] rfl (by (try simp only [List.map_toArray, List.map_cons, List.map_nil]); first | done | rfl) ?_; (with_reducible refine (period_Year_Index.calls k g730 t721 t722 t723 t724 t725 t726 t727 t728 t729 a2_0 a2_1 a2_2 t732 t733 t734 t735 t736 t737 t738 t739 t740 t741 t742 w _ ?side1 ?side2 A8.out).mono ?_); (case side1 => repeat (first | (with_reducible first | exact HI730.out | apply sA_ | apply sN_ | apply sD_ | refine sF_ ?_ NB730_718.out _ | refine sF_ ?_ NB730_719.out _) | exact HI730.out)); (case side2 => repeat (first | (with_reducible first | exact HB.out | apply lA_ | apply lN_ | apply lD_ | refine lS_ ?_ (sG_ HI730.out) | refine lS_ ?_ GE718.out | refine lS_ ?_ GE719.out) | exact HB.out)); rintro e w35 ⟨rfl, hi, hb, hk⟩; refine ⟨_, rfl, ?_⟩; have n0_ := a0_ (KeepBut.blk hk (g' := gb718) (o := .cells #[.int .i64 a1_0, .int .i64 a1_1, .int .i64 a1_2] 23 (0, 0)) (by (with_reducible repeat first | apply bN_ | apply bD_ | apply bA_); exact BK718.out) NB718_730.out (by simp)); have n1_ := a0_ (KeepBut.blk hk (g' := gb719) (o := .cells #[.int .i64 a2_0, .int .i64 a2_1, .int .i64 a2_2] 23 (0, 0)) (by (with_reducible repeat first | apply bN_ | apply bD_ | apply bA_); exact BK719.out) NB719_730.out (by simp)); have n2_ := a0_ (hb); have n3_ := a0_ (hi); clear BK718; clear BK719; clear HB; clear HI730; have BK718 := n0_; have BK719 := n1_; have HB := n2_; have HI730 := n3_; clear n0_ n1_ n2_ n3_; (try clear hb); (try clear hb2); (try clear hk); (try clear hi)))
      have n0_ := a0_ (bD_ BK718.out)
      have n1_ := a0_ (bD_ BK719.out)
      have n2_ := a0_ (sD_ HI730.out)
      have n3_ := a0_ (lD_ HB.out)
      clear BK718
      clear BK719
      clear HI730
      clear HB
      have BK718 := n0_
      have BK719 := n1_
      have HI730 := n2_
      have HB := n3_
      clear n0_ n1_ n2_ n3_
      refine start_ (n := 6) (S := fun w' => w'.cell? ⟨gb719, 0, none⟩ = some (.int .i64 a2_0) ∧ w'.cell? ⟨gb719, 1, none⟩ = some (.int .i64 a2_1) ∧ w'.cell? ⟨gb719, 2, none⟩ = some (.int .i64 a2_2) ∧ w'.cell? ⟨gb718, 0, none⟩ = some (.int .i64 a1_0) ∧ w'.cell? ⟨gb718, 1, none⟩ = some (.int .i64 a1_1) ∧ w'.cell? ⟨gb718, 2, none⟩ = some (.int .i64 a1_2)) (ds := []) #[false, false, false, false, false, false] (by kernel_rfl) rfl rfl ⟨(bC_ BK719.out 0).trans rfl, (bC_ BK719.out 1).trans rfl, (bC_ BK719.out 2).trans rfl, (bC_ BK718.out 0).trans rfl, (bC_ BK718.out 1).trans rfl, (bC_ BK718.out 2).trans rfl⟩ (fun hHeld => ?_)
      generalize w35.drew = w36 at BK718 BK719 HI730 HB hHeld ⊢
      refine take_ (i := 0) (N := some 29) (v := ?_) (a' := ?_) #[true, false, false, false, false, false] rfl rfl (by kernel_rfl) (fun _ _ _ h => h) (Or.inl ⟨by rfl, ?_⟩) hHeld ?_ ?_
      rotate_left
      ·rintro w' ⟨s0, s1, s2, s3, s4, s5⟩
       go_simp
       with_reducible rfl
      rotate_left
      ·simp only [Act.put, zA_, zB_, zC_, i64_w, i32_w]
       rfl
      refine take_ (i := 2) (N := some 31) (v := ?_) (a' := ?_) #[true, false, true, false, false, false] rfl rfl (by kernel_rfl) (fun _ _ _ h => h) (Or.inl ⟨by rfl, ?_⟩) hHeld ?_ ?_
      rotate_left
      ·rintro w' ⟨s0, s1, s2, s3, s4, s5⟩
       go_simp
       with_reducible rfl
      rotate_left
      ·simp only [Act.put, zA_, zB_, zC_, i64_w, i32_w]
       rfl
      refine one_ (i := 1) (N := some 30) #[true, true, true, false, false, false] rfl rfl (by kernel_rfl) (by decide) (fun K hK => ?_)
      refine goes_ Try.func23 (by kernel_rfl) rfl #[.agg #[.int .i64 a2_0, .int .i64 a2_1, .int .i64 a2_2]] (by rfl) rfl rfl (by (try simp only [List.map_toArray, List.map_cons, List.map_nil]); first | done | rfl) ?_
      with_reducible refine (stipendref03_Number.calls k a2_0 a2_1 a2_2 t743 _ A9.out).mono ?_
      rintro e w37 ⟨rfl, hb⟩
      refine ⟨_, rfl, ?_⟩
      have n0_ := a0_ (bB_ (g := gb718) (o := .cells #[.int .i64 a1_0, .int .i64 a1_1, .int .i64 a1_2] 23 (0, 0)) (by (with_reducible repeat first | apply bN_ | apply bD_ | apply bA_); exact BK718.out) hb)
      have n1_ := a0_ (bB_ (g := gb719) (o := .cells #[.int .i64 a2_0, .int .i64 a2_1, .int .i64 a2_2] 23 (0, 0)) (by (with_reducible repeat first | apply bN_ | apply bD_ | apply bA_); exact BK719.out) hb)
      have n2_ := a0_ (IsS62.below (by repeat (first | (with_reducible first | exact HI730.out | apply sA_ | apply sN_ | apply sD_ | refine sF_ ?_ NB730_718.out _ | refine sF_ ?_ NB730_719.out _) | exact HI730.out)) hb)
      have n3_ := a0_ (below_step (by repeat (first | (with_reducible first | exact HB.out | apply lA_ | apply lN_ | apply lD_ | refine lS_ ?_ (sG_ HI730.out) | refine lS_ ?_ GE718.out | refine lS_ ?_ GE719.out) | exact HB.out)) hb)
      clear BK718
      clear BK719
      clear HI730
      clear HB
      have BK718 := n0_
      have BK719 := n1_
      have HI730 := n2_
      have HB := n3_
      clear n0_ n1_ n2_ n3_
      (try clear hb)
      (try clear hb2)
      (try clear hk)
      (try clear hi)
      refine hK.out _ _ ⟨(bC_ BK719.out 0).trans rfl, (bC_ BK719.out 1).trans rfl, (bC_ BK719.out 2).trans rfl, (bC_ BK718.out 0).trans rfl, (bC_ BK718.out 1).trans rfl, (bC_ BK718.out 2).trans rfl⟩ (fun hHeld => ?_)
      clear hK K
      refine norm_ (a' := ?_) ?_ ?_
      rotate_left
      ·show Act.put _ (some 30) _ = _
       simp only [Act.put, zA_, zB_, zC_, i64_w, i32_w]
       rfl
      refine one_ (i := 3) (N := some 32) #[true, true, true, true, false, false] rfl rfl (by kernel_rfl) (by decide) (fun K hK => ?_)
      refine goes_ Try.func23 (by kernel_rfl) rfl #[.agg #[.int .i64 a1_0, .int .i64 a1_1, .int .i64 a1_2]] (by rfl) rfl rfl (by (try simp only [List.map_toArray, List.map_cons, List.map_nil]); first | done | rfl) ?_
      with_reducible refine (stipendref03_Number.calls k a1_0 a1_1 a1_2 t744 _ A10.out).mono ?_
      rintro e w38 ⟨rfl, hb⟩
      refine ⟨_, rfl, ?_⟩
      have n0_ := a0_ (bB_ (g := gb718) (o := .cells #[.int .i64 a1_0, .int .i64 a1_1, .int .i64 a1_2] 23 (0, 0)) (by (with_reducible repeat first | apply bN_ | apply bD_ | apply bA_); exact BK718.out) hb)
      have n1_ := a0_ (bB_ (g := gb719) (o := .cells #[.int .i64 a2_0, .int .i64 a2_1, .int .i64 a2_2] 23 (0, 0)) (by (with_reducible repeat first | apply bN_ | apply bD_ | apply bA_); exact BK719.out) hb)
      have n2_ := a0_ (IsS62.below (by repeat (first | (with_reducible first | exact HI730.out | apply sA_ | apply sN_ | apply sD_ | refine sF_ ?_ NB730_718.out _ | refine sF_ ?_ NB730_719.out _) | exact HI730.out)) hb)
      have n3_ := a0_ (below_step (by repeat (first | (with_reducible first | exact HB.out | apply lA_ | apply lN_ | apply lD_ | refine lS_ ?_ (sG_ HI730.out) | refine lS_ ?_ GE718.out | refine lS_ ?_ GE719.out) | exact HB.out)) hb)
      clear BK718
      clear BK719
      clear HI730
      clear HB
      have BK718 := n0_
      have BK719 := n1_
      have HI730 := n2_
      have HB := n3_
      clear n0_ n1_ n2_ n3_
      (try clear hb)
      (try clear hb2)
      (try clear hk)
      (try clear hi)
      refine hK.out _ _ ⟨(bC_ BK719.out 0).trans rfl, (bC_ BK719.out 1).trans rfl, (bC_ BK719.out 2).trans rfl, (bC_ BK718.out 0).trans rfl, (bC_ BK718.out 1).trans rfl, (bC_ BK718.out 2).trans rfl⟩ (fun hHeld => ?_)
      clear hK K
      refine norm_ (a' := ?_) ?_ ?_
      rotate_left
      ·show Act.put _ (some 32) _ = _
       simp only [Act.put, zA_, zB_, zC_, i64_w, i32_w]
       rfl
      refine pure_ (i := 4) (N := some 11) (v := ?_) (a' := ?_) #[true, true, true, true, true, false] rfl rfl (by kernel_rfl) (fun _ _ _ h => h) (Or.inl ⟨by rfl, ?_⟩) ?_ ?_
      rotate_left
      ·intro w'
       go_simp
       with_reducible rfl
      rotate_left
      ·simp only [Act.put, zA_, zB_, zC_, i64_w, i32_w]
       rfl
      refine pure_ (i := 5) (N := some 12) (v := ?_) (a' := ?_) #[true, true, true, true, true, true] rfl rfl (by kernel_rfl) (fun _ _ _ h => h) (Or.inl ⟨by rfl, ?_⟩) ?_ ?_
      rotate_left
      ·intro w'
       go_simp
       with_reducible rfl
      rotate_left
      ·simp only [Act.put, zA_, zB_, zC_, i64_w, i32_w]
       rfl
      refine done_ (by kernel_rfl) ?_
      try go_wp2
      go_ret
      exact ⟨by first | rfl | (simp [errW_none, errW_some] <;> rfl) | (simp [*, errW_none, errW_some] <;> rfl), by repeat (first | (with_reducible first | exact HB.out | apply lA_ | apply lN_ | apply lD_ | refine lS_ ?_ (sG_ HI730.out) | refine lS_ ?_ GE718.out | refine lS_ ?_ GE719.out) | exact HB.out)⟩
     ·rw [if_neg c26] at H
      exact absurd H (by simp)
    ·rw [if_neg c25] at H
     have c25b0 : decide (t743 < t744) = false := decide_eq_false c25
     clear c25
     replace H := oB_ H
     obtain ⟨⟨t745, t746, t747, t748, t749, t750, t751, t752, t753, t754, t755, t756⟩, A390, H⟩ := H
     replace H : ((stipendref03_Number.f k t745 t746 t747).bind fun t757 => (if t743 > t757 then (if t733 = 1 then (some (t732 == 0)) else (none)) else (if t733 = 0 then (if t732 ≥ 1 then ((period_Year_Count.f t748 t749 t750 t751 t752 t753 t754 t755 t756).bind fun bt758 => (some (decide (t732 ≤ bt758.1)))) else (none)) else (none)))) = some r := H
     have A39 := a0_ A390
     clear A390
     replace H := oB_ H
     obtain ⟨t757, A400, H⟩ := H
     replace H : (if t743 > t757 then (if t733 = 1 then (some (t732 == 0)) else (none)) else (if t733 = 0 then (if t732 ≥ 1 then ((period_Year_Count.f t748 t749 t750 t751 t752 t753 t754 t755 t756).bind fun bt758 => (some (decide (t732 ≤ bt758.1)))) else (none)) else (none))) = some r := H
     have A40 := a0_ A400
     clear A400
     by_cases c41 : t743 > t757
     ·rw [if_pos c41] at H
      have c41b0 : decide (t757 < t743) = true := decide_eq_true c41
      clear c41
      by_cases c42 : t733 = 1
      ·rw [if_pos c42] at H
       have c42b0 : (t733 == 1) = true := beq_iff_eq.mpr c42
       have c42b1 : (t733 != 1) = false := bne_eq_false_iff_eq.mpr c42
       clear c42
       obtain rfl := Option.some.inj H
       go_enter Try.func6, Try.ntmps6
       try go_wp2_with (first | ((with_reducible refine gate_dst (N := 4) rfl ?_); refine box_event ?hg (N := 4) ?hd (cs := #[.int .i64 a1_0, .int .i64 a1_1, .int .i64 a1_2]) (t := 23) ?hr ?_; (case hd => rfl); (case hg => rfl); (case hr => first | (go_simp; done) | (go_simp; rfl)); intro gb718 hg w43 hbox hb; have n0_ := a0_ (below_step (by repeat (first | (with_reducible first | exact HB.out | apply lA_ | apply lN_ | apply lD_) | exact HB.out)) hb); have n1_ := a0_ (hbox); have n2_ := a0_ ((by rw [hg]; exact (below_size (by repeat (first | (with_reducible first | exact HB.out | apply lA_ | apply lN_ | apply lD_) | exact HB.out))) : w.heap.size ≤ gb718)); have n3_ := a0_ ((by rw [hg]; exact (below_size (by repeat (first | (with_reducible first | exact HB.out | apply lA_ | apply lN_ | apply lD_) | exact HB.out))) : w.heap.size ≤ gb718)); clear HB; have HB := n0_; have BK718 := n1_; have GW718 := n2_; have GE718 := n3_; clear n0_ n1_ n2_ n3_; clear hb hbox hg) | ((with_reducible refine gate_dst (N := 5) rfl ?_); refine box_event ?hg (N := 5) ?hd (cs := #[.int .i64 a2_0, .int .i64 a2_1, .int .i64 a2_2]) (t := 23) ?hr ?_; (case hd => rfl); (case hg => rfl); (case hr => first | (go_simp; done) | (go_simp; rfl)); intro gb719 hg w44 hbox hb; have n0_ := a0_ (bB_ (g := gb718) (o := .cells #[.int .i64 a1_0, .int .i64 a1_1, .int .i64 a1_2] 23 (0, 0)) (by (with_reducible repeat first | apply bN_ | apply bD_ | apply bA_); exact BK718.out) hb); have n1_ := a0_ (below_step (by repeat (first | (with_reducible first | exact HB.out | apply lA_ | apply lN_ | apply lD_ | refine lS_ ?_ GE718.out) | exact HB.out)) hb); have n2_ := a0_ (hbox); have n3_ := a0_ ((by rw [hg]; exact (below_size (by repeat (first | (with_reducible first | exact HB.out | apply lA_ | apply lN_ | apply lD_ | refine lS_ ?_ GE718.out) | exact HB.out))) : w.heap.size ≤ gb719)); have n4_ := a0_ ((by rw [hg]; exact (below_size (by repeat (first | (with_reducible first | exact HB.out | apply lA_ | apply lN_ | apply lD_ | refine lS_ ?_ GE718.out) | exact HB.out))) : w.heap.size ≤ gb719)); have n5_ := a0_ ((by rw [hg]; exact Nat.ne_of_lt (blk_lt (g := gb718) (o := .cells #[.int .i64 a1_0, .int .i64 a1_1, .int .i64 a1_2] 23 (0, 0)) (by (with_reducible repeat first | apply bN_ | apply bD_ | apply bA_); exact BK718.out)) : gb718 ≠ gb719)); have n6_ := a0_ ((by rw [hg]; exact Nat.ne_of_gt (blk_lt (g := gb718) (o := .cells #[.int .i64 a1_0, .int .i64 a1_1, .int .i64 a1_2] 23 (0, 0)) (by (with_reducible repeat first | apply bN_ | apply bD_ | apply bA_); exact BK718.out)) : gb719 ≠ gb718)); clear BK718; clear HB; have BK718 := n0_; have HB := n1_; have BK719 := n2_; have GW719 := n3_; have GE719 := n4_; have NB718_719 := n5_; have NB719_718 := n6_; clear n0_ n1_ n2_ n3_ n4_ n5_ n6_; clear hb hbox hg) | ((with_reducible refine gate_callee (f := 20) rfl ?_); refine goesL_ (some 13) rfl rfl Try.func20 (by kernel_rfl) rfl #[] rfl (by (try simp only [List.map_toArray, List.map_cons, List.map_nil]); first | done | rfl) ?_; (with_reducible refine (stipendlaw04_cuts.calls k  true _ A4.out).mono ?_); rintro e w45 ⟨rfl, hb⟩; refine ⟨_, rfl, ?_⟩; have n0_ := a0_ (bB_ (g := gb718) (o := .cells #[.int .i64 a1_0, .int .i64 a1_1, .int .i64 a1_2] 23 (0, 0)) (by (with_reducible repeat first | apply bN_ | apply bD_ | apply bA_); exact BK718.out) hb); have n1_ := a0_ (bB_ (g := gb719) (o := .cells #[.int .i64 a2_0, .int .i64 a2_1, .int .i64 a2_2] 23 (0, 0)) (by (with_reducible repeat first | apply bN_ | apply bD_ | apply bA_); exact BK719.out) hb); have n2_ := a0_ (below_step (by repeat (first | (with_reducible first | exact HB.out | apply lA_ | apply lN_ | apply lD_ | refine lS_ ?_ GE718.out | refine lS_ ?_ GE719.out) | exact HB.out)) hb); clear BK718; clear BK719; clear HB; have BK718 := n0_; have BK719 := n1_; have HB := n2_; clear n0_ n1_ n2_; (try clear hb); (try clear hb2); (try clear hk); (try clear hi); have hnb46 := NB718_719.out; have hnc46 := NB719_718.out; have hcz47_0 : w45.cell? ⟨gb718, 0, none⟩ = some (.int .i64 a1_0) := (bC_ BK718.out 0).trans rfl; have hcz47_1 : w45.cell? ⟨gb718, 1, none⟩ = some (.int .i64 a1_1) := (bC_ BK718.out 1).trans rfl; have hcz47_2 : w45.cell? ⟨gb718, 2, none⟩ = some (.int .i64 a1_2) := (bC_ BK718.out 2).trans rfl; have hfz47_0 := bF_ BK718.out 0; have hfz47_1 := bF_ BK718.out 1; have hfz47_2 := bF_ BK718.out 2) | ((with_reducible refine gate_callee (f := 12) rfl ?_); refine goesL_ (some 18) rfl rfl Try.func12 (by kernel_rfl) rfl #[.int .i64 a0, .agg #[.int .i64 a1_0, .int .i64 a1_1, .int .i64 a1_2]] rfl (by (try simp only [List.map_toArray, List.map_cons, List.map_nil]); first | done | rfl) ?_; (with_reducible refine (period_New_A.calls k a0 a1_0 a1_1 a1_2 t721 t722 t723 t724 t725 t726 t727 t728 t729 t731 w _ ?side1 A7.out).mono ?_); (case side1 => repeat (first | (with_reducible first | exact HB.out | apply lA_ | apply lN_ | apply lD_ | refine lS_ ?_ GE718.out | refine lS_ ?_ GE719.out) | exact HB.out)); rintro e w48 ⟨g730, rfl, hi, hb, hb2, hge⟩; refine ⟨_, rfl, ?_⟩; have n0_ := a0_ (bB_ (g := gb718) (o := .cells #[.int .i64 a1_0, .int .i64 a1_1, .int .i64 a1_2] 23 (0, 0)) (by (with_reducible repeat first | apply bN_ | apply bD_ | apply bA_); exact BK718.out) hb2); have n1_ := a0_ (bB_ (g := gb719) (o := .cells #[.int .i64 a2_0, .int .i64 a2_1, .int .i64 a2_2] 23 (0, 0)) (by (with_reducible repeat first | apply bN_ | apply bD_ | apply bA_); exact BK719.out) hb2); have n2_ := a0_ (hb); have n3_ := a0_ (hi); have n4_ := a0_ (IsS62.ne_blk hi (bB_ (g := gb718) (o := .cells #[.int .i64 a1_0, .int .i64 a1_1, .int .i64 a1_2] 23 (0, 0)) (by (with_reducible repeat first | apply bN_ | apply bD_ | apply bA_); exact BK718.out) hb2) (by decide)); have n5_ := a0_ (Ne.symm (IsS62.ne_blk hi (bB_ (g := gb718) (o := .cells #[.int .i64 a1_0, .int .i64 a1_1, .int .i64 a1_2] 23 (0, 0)) (by (with_reducible repeat first | apply bN_ | apply bD_ | apply bA_); exact BK718.out) hb2) (by decide))); have n6_ := a0_ (IsS62.ne_blk hi (bB_ (g := gb719) (o := .cells #[.int .i64 a2_0, .int .i64 a2_1, .int .i64 a2_2] 23 (0, 0)) (by (with_reducible repeat first | apply bN_ | apply bD_ | apply bA_); exact BK719.out) hb2) (by decide)); have n7_ := a0_ (Ne.symm (IsS62.ne_blk hi (bB_ (g := gb719) (o := .cells #[.int .i64 a2_0, .int .i64 a2_1, .int .i64 a2_2] 23 (0, 0)) (by (with_reducible repeat first | apply bN_ | apply bD_ | apply bA_); exact BK719.out) hb2) (by decide))); clear BK718; clear BK719; clear HB; have BK718 := n0_; have BK719 := n1_; have HB := n2_; have HI730 := n3_; have NB730_718 := n4_; have NB718_730 := n5_; have NB730_719 := n6_; have NB719_730 := n7_; clear n0_ n1_ n2_ n3_ n4_ n5_ n6_ n7_; (try clear hb); (try clear hb2); (try clear hk); (try clear hi); have hnb49 := NB719_730.out; have hnc49 := NB730_719.out; have hcz50_0 : w48.cell? ⟨gb719, 0, none⟩ = some (.int .i64 a2_0) := (bC_ BK719.out 0).trans rfl; have hcz50_1 : w48.cell? ⟨gb719, 1, none⟩ = some (.int .i64 a2_1) := (bC_ BK719.out 1).trans rfl; have hcz50_2 : w48.cell? ⟨gb719, 2, none⟩ = some (.int .i64 a2_2) := (bC_ BK719.out 2).trans rfl; have hfz50_0 := bF_ BK719.out 0; have hfz50_1 := bF_ BK719.out 1; have hfz50_2 := bF_ BK719.out 2) | ((with_reducible refine gate_callee (f := 14) rfl ?_); refine goesL_ (some 26) rfl rfl Try.func14 (by kernel_rfl) rfl #[.pointer (some ⟨g730, 0, none⟩), .agg #[.int .i64 a2_0, .int .i64 a2_1, .int .i64 a2_2]] rfl (by (try simp only [List.map_toArray, List.map_cons, List.map_nil]); first | done | rfl) ?_; (with_reducible refine (period_Year_Index.calls k g730 t721 t722 t723 t724 t725 t726 t727 t728 t729 a2_0 a2_1 a2_2 t732 t733 t734 t735 t736 t737 t738 t739 t740 t741 t742 w _ ?side1 ?side2 A8.out).mono ?_); (case side1 => repeat (first | (with_reducible first | exact HI730.out | apply sA_ | apply sN_ | apply sD_ | refine sF_ ?_ NB730_718.out _ | refine sF_ ?_ NB730_719.out _) | exact HI730.out)); (case side2 => repeat (first | (with_reducible first | exact HB.out | apply lA_ | apply lN_ | apply lD_ | refine lS_ ?_ (sG_ HI730.out) | refine lS_ ?_ GE718.out | refine lS_ ?_ GE719.out) | exact HB.out)); rintro e w51 ⟨rfl, hi, hb, hk⟩; refine ⟨_, rfl, ?_⟩; have n0_ := a0_ (KeepBut.blk hk (g' := gb718) (o := .cells #[.int .i64 a1_0, .int .i64 a1_1, .int .i64 a1_2] 23 (0, 0)) (by (with_reducible repeat first | apply bN_ | apply bD_ | apply bA_); exact BK718.out) NB718_730.out (by simp)); have n1_ := a0_ (KeepBut.blk hk (g' := gb719) (o := .cells #[.int .i64 a2_0, .int .i64 a2_1, .int .i64 a2_2] 23 (0, 0)) (by (with_reducible repeat first | apply bN_ | apply bD_ | apply bA_); exact BK719.out) NB719_730.out (by simp)); have n2_ := a0_ (hb); have n3_ := a0_ (hi); clear BK718; clear BK719; clear HB; clear HI730; have BK718 := n0_; have BK719 := n1_; have HB := n2_; have HI730 := n3_; clear n0_ n1_ n2_ n3_; (try clear hb); (try clear hb2); (try clear hk); (try clear hi)))
       have n0_ := a0_ (bD_ BK718.out)
       have n1_ := a0_ (bD_ BK719.out)
       have n2_ := a0_ (sD_ HI730.out)
       have n3_ := a0_ (lD_ HB.out)
       clear BK718
       clear BK719
       clear HI730
       clear HB
       have BK718 := n0_
       have BK719 := n1_
       have HI730 := n2_
       have HB := n3_
       clear n0_ n1_ n2_ n3_
       refine start_ (n := 6) (S := fun w' => w'.cell? ⟨gb719, 0, none⟩ = some (.int .i64 a2_0) ∧ w'.cell? ⟨gb719, 1, none⟩ = some (.int .i64 a2_1) ∧ w'.cell? ⟨gb719, 2, none⟩ = some (.int .i64 a2_2) ∧ w'.cell? ⟨gb718, 0, none⟩ = some (.int .i64 a1_0) ∧ w'.cell? ⟨gb718, 1, none⟩ = some (.int .i64 a1_1) ∧ w'.cell? ⟨gb718, 2, none⟩ = some (.int .i64 a1_2)) (ds := []) #[false, false, false, false, false, false] (by kernel_rfl) rfl rfl ⟨(bC_ BK719.out 0).trans rfl, (bC_ BK719.out 1).trans rfl, (bC_ BK719.out 2).trans rfl, (bC_ BK718.out 0).trans rfl, (bC_ BK718.out 1).trans rfl, (bC_ BK718.out 2).trans rfl⟩ (fun hHeld => ?_)
       generalize w51.drew = w52 at BK718 BK719 HI730 HB hHeld ⊢
       refine take_ (i := 0) (N := some 29) (v := ?_) (a' := ?_) #[true, false, false, false, false, false] rfl rfl (by kernel_rfl) (fun _ _ _ h => h) (Or.inl ⟨by rfl, ?_⟩) hHeld ?_ ?_
       rotate_left
       ·rintro w' ⟨s0, s1, s2, s3, s4, s5⟩
        go_simp
        with_reducible rfl
       rotate_left
       ·simp only [Act.put, zA_, zB_, zC_, i64_w, i32_w]
        rfl
       refine take_ (i := 2) (N := some 31) (v := ?_) (a' := ?_) #[true, false, true, false, false, false] rfl rfl (by kernel_rfl) (fun _ _ _ h => h) (Or.inl ⟨by rfl, ?_⟩) hHeld ?_ ?_
       rotate_left
       ·rintro w' ⟨s0, s1, s2, s3, s4, s5⟩
        go_simp
        with_reducible rfl
       rotate_left
       ·simp only [Act.put, zA_, zB_, zC_, i64_w, i32_w]
        rfl
       refine one_ (i := 1) (N := some 30) #[true, true, true, false, false, false] rfl rfl (by kernel_rfl) (by decide) (fun K hK => ?_)
       refine goes_ Try.func23 (by kernel_rfl) rfl #[.agg #[.int .i64 a2_0, .int .i64 a2_1, .int .i64 a2_2]] (by rfl) rfl rfl (by (try simp only [List.map_toArray, List.map_cons, List.map_nil]); first | done | rfl) ?_
       with_reducible refine (stipendref03_Number.calls k a2_0 a2_1 a2_2 t743 _ A9.out).mono ?_
       rintro e w53 ⟨rfl, hb⟩
       refine ⟨_, rfl, ?_⟩
       have n0_ := a0_ (bB_ (g := gb718) (o := .cells #[.int .i64 a1_0, .int .i64 a1_1, .int .i64 a1_2] 23 (0, 0)) (by (with_reducible repeat first | apply bN_ | apply bD_ | apply bA_); exact BK718.out) hb)
       have n1_ := a0_ (bB_ (g := gb719) (o := .cells #[.int .i64 a2_0, .int .i64 a2_1, .int .i64 a2_2] 23 (0, 0)) (by (with_reducible repeat first | apply bN_ | apply bD_ | apply bA_); exact BK719.out) hb)
       have n2_ := a0_ (IsS62.below (by repeat (first | (with_reducible first | exact HI730.out | apply sA_ | apply sN_ | apply sD_ | refine sF_ ?_ NB730_718.out _ | refine sF_ ?_ NB730_719.out _) | exact HI730.out)) hb)
       have n3_ := a0_ (below_step (by repeat (first | (with_reducible first | exact HB.out | apply lA_ | apply lN_ | apply lD_ | refine lS_ ?_ (sG_ HI730.out) | refine lS_ ?_ GE718.out | refine lS_ ?_ GE719.out) | exact HB.out)) hb)
       clear BK718
       clear BK719
       clear HI730
       clear HB
       have BK718 := n0_
       have BK719 := n1_
       have HI730 := n2_
       have HB := n3_
       clear n0_ n1_ n2_ n3_
       (try clear hb)
       (try clear hb2)
       (try clear hk)
       (try clear hi)
       refine hK.out _ _ ⟨(bC_ BK719.out 0).trans rfl, (bC_ BK719.out 1).trans rfl, (bC_ BK719.out 2).trans rfl, (bC_ BK718.out 0).trans rfl, (bC_ BK718.out 1).trans rfl, (bC_ BK718.out 2).trans rfl⟩ (fun hHeld => ?_)
       clear hK K
       refine norm_ (a' := ?_) ?_ ?_
       rotate_left
       ·show Act.put _ (some 30) _ = _
        simp only [Act.put, zA_, zB_, zC_, i64_w, i32_w]
        rfl
       refine one_ (i := 3) (N := some 32) #[true, true, true, true, false, false] rfl rfl (by kernel_rfl) (by decide) (fun K hK => ?_)
       refine goes_ Try.func23 (by kernel_rfl) rfl #[.agg #[.int .i64 a1_0, .int .i64 a1_1, .int .i64 a1_2]] (by rfl) rfl rfl (by (try simp only [List.map_toArray, List.map_cons, List.map_nil]); first | done | rfl) ?_
       with_reducible refine (stipendref03_Number.calls k a1_0 a1_1 a1_2 t744 _ A10.out).mono ?_
       rintro e w54 ⟨rfl, hb⟩
       refine ⟨_, rfl, ?_⟩
       have n0_ := a0_ (bB_ (g := gb718) (o := .cells #[.int .i64 a1_0, .int .i64 a1_1, .int .i64 a1_2] 23 (0, 0)) (by (with_reducible repeat first | apply bN_ | apply bD_ | apply bA_); exact BK718.out) hb)
       have n1_ := a0_ (bB_ (g := gb719) (o := .cells #[.int .i64 a2_0, .int .i64 a2_1, .int .i64 a2_2] 23 (0, 0)) (by (with_reducible repeat first | apply bN_ | apply bD_ | apply bA_); exact BK719.out) hb)
       have n2_ := a0_ (IsS62.below (by repeat (first | (with_reducible first | exact HI730.out | apply sA_ | apply sN_ | apply sD_ | refine sF_ ?_ NB730_718.out _ | refine sF_ ?_ NB730_719.out _) | exact HI730.out)) hb)
       have n3_ := a0_ (below_step (by repeat (first | (with_reducible first | exact HB.out | apply lA_ | apply lN_ | apply lD_ | refine lS_ ?_ (sG_ HI730.out) | refine lS_ ?_ GE718.out | refine lS_ ?_ GE719.out) | exact HB.out)) hb)
       clear BK718
       clear BK719
       clear HI730
       clear HB
       have BK718 := n0_
       have BK719 := n1_
       have HI730 := n2_
       have HB := n3_
       clear n0_ n1_ n2_ n3_
       (try clear hb)
       (try clear hb2)
       (try clear hk)
       (try clear hi)
       refine hK.out _ _ ⟨(bC_ BK719.out 0).trans rfl, (bC_ BK719.out 1).trans rfl, (bC_ BK719.out 2).trans rfl, (bC_ BK718.out 0).trans rfl, (bC_ BK718.out 1).trans rfl, (bC_ BK718.out 2).trans rfl⟩ (fun hHeld => ?_)
       clear hK K
       refine norm_ (a' := ?_) ?_ ?_
       rotate_left
       ·show Act.put _ (some 32) _ = _
        simp only [Act.put, zA_, zB_, zC_, i64_w, i32_w]
        rfl
       refine pure_ (i := 4) (N := some 11) (v := ?_) (a' := ?_) #[true, true, true, true, true, false] rfl rfl (by kernel_rfl) (fun _ _ _ h => h) (Or.inl ⟨by rfl, ?_⟩) ?_ ?_
       rotate_left
       ·intro w'
        go_simp
        with_reducible rfl
       rotate_left
       ·simp only [Act.put, zA_, zB_, zC_, i64_w, i32_w]
        rfl
       refine pure_ (i := 5) (N := some 12) (v := ?_) (a' := ?_) #[true, true, true, true, true, true] rfl rfl (by kernel_rfl) (fun _ _ _ h => h) (Or.inl ⟨by rfl, ?_⟩) ?_ ?_
       rotate_left
       ·intro w'
        go_simp
        with_reducible rfl
       rotate_left
       ·simp only [Act.put, zA_, zB_, zC_, i64_w, i32_w]
        rfl
       refine done_ (by kernel_rfl) ?_
       try go_wp2_with (first | (go_at_call 18; (with_reducible refine (period_Year_End.calls g730 t734 t735 t736 t737 t738 t739 t740 t741 t742 t745 t746 t747 t748 t749 t750 t751 t752 t753 t754 t755 t756 w _ ?side1 ?side2 A39.out).mono ?_); (case side1 => repeat (first | (with_reducible first | exact HI730.out | apply sA_ | apply sN_ | apply sD_ | refine sF_ ?_ NB730_718.out _ | refine sF_ ?_ NB730_719.out _) | exact HI730.out)); (case side2 => repeat (first | (with_reducible first | exact HB.out | apply lA_ | apply lN_ | apply lD_ | refine lS_ ?_ (sG_ HI730.out) | refine lS_ ?_ GE718.out | refine lS_ ?_ GE719.out) | exact HB.out)); rintro e w55 ⟨rfl, hi, hb, hk⟩; have n0_ := a0_ (KeepBut.blk hk (g' := gb718) (o := .cells #[.int .i64 a1_0, .int .i64 a1_1, .int .i64 a1_2] 23 (0, 0)) (by (with_reducible repeat first | apply bN_ | apply bD_ | apply bA_); exact BK718.out) NB718_730.out (by simp)); have n1_ := a0_ (KeepBut.blk hk (g' := gb719) (o := .cells #[.int .i64 a2_0, .int .i64 a2_1, .int .i64 a2_2] 23 (0, 0)) (by (with_reducible repeat first | apply bN_ | apply bD_ | apply bA_); exact BK719.out) NB719_730.out (by simp)); have n2_ := a0_ (hb); have n3_ := a0_ (hi); clear BK718; clear BK719; clear HB; clear HI730; have BK718 := n0_; have BK719 := n1_; have HB := n2_; have HI730 := n3_; clear n0_ n1_ n2_ n3_; (try clear hb); (try clear hb2); (try clear hk); (try clear hi)) | (go_at_call 23; (with_reducible refine (stipendref03_Number.calls k t745 t746 t747 t757 _ A40.out).mono ?_); rintro e w56 ⟨rfl, hb⟩; have n0_ := a0_ (bB_ (g := gb718) (o := .cells #[.int .i64 a1_0, .int .i64 a1_1, .int .i64 a1_2] 23 (0, 0)) (by (with_reducible repeat first | apply bN_ | apply bD_ | apply bA_); exact BK718.out) hb); have n1_ := a0_ (bB_ (g := gb719) (o := .cells #[.int .i64 a2_0, .int .i64 a2_1, .int .i64 a2_2] 23 (0, 0)) (by (with_reducible repeat first | apply bN_ | apply bD_ | apply bA_); exact BK719.out) hb); have n2_ := a0_ (IsS62.below (by repeat (first | (with_reducible first | exact HI730.out | apply sA_ | apply sN_ | apply sD_ | refine sF_ ?_ NB730_718.out _ | refine sF_ ?_ NB730_719.out _) | exact HI730.out)) hb); have n3_ := a0_ (below_step (by repeat (first | (with_reducible first | exact HB.out | apply lA_ | apply lN_ | apply lD_ | refine lS_ ?_ (sG_ HI730.out) | refine lS_ ?_ GE718.out | refine lS_ ?_ GE719.out) | exact HB.out)) hb); clear BK718; clear BK719; clear HI730; clear HB; have BK718 := n0_; have BK719 := n1_; have HI730 := n2_; have HB := n3_; clear n0_ n1_ n2_ n3_; (try clear hb); (try clear hb2); (try clear hk); (try clear hi)))
       go_ret
       exact ⟨by first | rfl | (simp [errW_none, errW_some] <;> rfl) | (simp [*, errW_none, errW_some] <;> rfl), by repeat (first | (with_reducible first | exact HB.out | apply lA_ | apply lN_ | apply lD_ | refine lS_ ?_ (sG_ HI730.out) | refine lS_ ?_ GE718.out | refine lS_ ?_ GE719.out) | exact HB.out)⟩
      ·rw [if_neg c42] at H
       exact absurd H (by simp)
     ·rw [if_neg c41] at H
      have c41b0 : decide (t757 < t743) = false := decide_eq_false c41
      clear c41
      by_cases c57 : t733 = 0
      ·rw [if_pos c57] at H
       have c57b0 : (t733 == 0) = true := beq_iff_eq.mpr c57
       have c57b1 : (t733 != 0) = false := bne_eq_false_iff_eq.mpr c57
       clear c57
       by_cases c58 : t732 ≥ 1
       ·rw [if_pos c58] at H
        have c58b0 : decide (1 ≤ t732) = true := decide_eq_true c58
        clear c58
        replace H := oB_ H
        obtain ⟨⟨t758, t759, t760, t761, t762, t763, t764, t765, t766, t767⟩, A590, H⟩ := H
        replace H : (some (decide (t732 ≤ t758))) = some r := H
        have A59 := a0_ A590
        clear A590
        obtain rfl := Option.some.inj H
        go_enter Try.func6, Try.ntmps6
        try go_wp2_with (first | ((with_reducible refine gate_dst (N := 4) rfl ?_); refine box_event ?hg (N := 4) ?hd (cs := #[.int .i64 a1_0, .int .i64 a1_1, .int .i64 a1_2]) (t := 23) ?hr ?_; (case hd => rfl); (case hg => rfl); (case hr => first | (go_simp; done) | (go_simp; rfl)); intro gb718 hg w60 hbox hb; have n0_ := a0_ (below_step (by repeat (first | (with_reducible first | exact HB.out | apply lA_ | apply lN_ | apply lD_) | exact HB.out)) hb); have n1_ := a0_ (hbox); have n2_ := a0_ ((by rw [hg]; exact (below_size (by repeat (first | (with_reducible first | exact HB.out | apply lA_ | apply lN_ | apply lD_) | exact HB.out))) : w.heap.size ≤ gb718)); have n3_ := a0_ ((by rw [hg]; exact (below_size (by repeat (first | (with_reducible first | exact HB.out | apply lA_ | apply lN_ | apply lD_) | exact HB.out))) : w.heap.size ≤ gb718)); clear HB; have HB := n0_; have BK718 := n1_; have GW718 := n2_; have GE718 := n3_; clear n0_ n1_ n2_ n3_; clear hb hbox hg) | ((with_reducible refine gate_dst (N := 5) rfl ?_); refine box_event ?hg (N := 5) ?hd (cs := #[.int .i64 a2_0, .int .i64 a2_1, .int .i64 a2_2]) (t := 23) ?hr ?_; (case hd => rfl); (case hg => rfl); (case hr => first | (go_simp; done) | (go_simp; rfl)); intro gb719 hg w61 hbox hb; have n0_ := a0_ (bB_ (g := gb718) (o := .cells #[.int .i64 a1_0, .int .i64 a1_1, .int .i64 a1_2] 23 (0, 0)) (by (with_reducible repeat first | apply bN_ | apply bD_ | apply bA_); exact BK718.out) hb); have n1_ := a0_ (below_step (by repeat (first | (with_reducible first | exact HB.out | apply lA_ | apply lN_ | apply lD_ | refine lS_ ?_ GE718.out) | exact HB.out)) hb); have n2_ := a0_ (hbox); have n3_ := a0_ ((by rw [hg]; exact (below_size (by repeat (first | (with_reducible first | exact HB.out | apply lA_ | apply lN_ | apply lD_ | refine lS_ ?_ GE718.out) | exact HB.out))) : w.heap.size ≤ gb719)); have n4_ := a0_ ((by rw [hg]; exact (below_size (by repeat (first | (with_reducible first | exact HB.out | apply lA_ | apply lN_ | apply lD_ | refine lS_ ?_ GE718.out) | exact HB.out))) : w.heap.size ≤ gb719)); have n5_ := a0_ ((by rw [hg]; exact Nat.ne_of_lt (blk_lt (g := gb718) (o := .cells #[.int .i64 a1_0, .int .i64 a1_1, .int .i64 a1_2] 23 (0, 0)) (by (with_reducible repeat first | apply bN_ | apply bD_ | apply bA_); exact BK718.out)) : gb718 ≠ gb719)); have n6_ := a0_ ((by rw [hg]; exact Nat.ne_of_gt (blk_lt (g := gb718) (o := .cells #[.int .i64 a1_0, .int .i64 a1_1, .int .i64 a1_2] 23 (0, 0)) (by (with_reducible repeat first | apply bN_ | apply bD_ | apply bA_); exact BK718.out)) : gb719 ≠ gb718)); clear BK718; clear HB; have BK718 := n0_; have HB := n1_; have BK719 := n2_; have GW719 := n3_; have GE719 := n4_; have NB718_719 := n5_; have NB719_718 := n6_; clear n0_ n1_ n2_ n3_ n4_ n5_ n6_; clear hb hbox hg) | ((with_reducible refine gate_callee (f := 20) rfl ?_); refine goesL_ (some 13) rfl rfl Try.func20 (by kernel_rfl) rfl #[] rfl (by (try simp only [List.map_toArray, List.map_cons, List.map_nil]); first | done | rfl) ?_; (with_reducible refine (stipendlaw04_cuts.calls k  true _ A4.out).mono ?_); rintro e w62 ⟨rfl, hb⟩; refine ⟨_, rfl, ?_⟩; have n0_ := a0_ (bB_ (g := gb718) (o := .cells #[.int .i64 a1_0, .int .i64 a1_1, .int .i64 a1_2] 23 (0, 0)) (by (with_reducible repeat first | apply bN_ | apply bD_ | apply bA_); exact BK718.out) hb); have n1_ := a0_ (bB_ (g := gb719) (o := .cells #[.int .i64 a2_0, .int .i64 a2_1, .int .i64 a2_2] 23 (0, 0)) (by (with_reducible repeat first | apply bN_ | apply bD_ | apply bA_); exact BK719.out) hb); have n2_ := a0_ (below_step (by repeat (first | (with_reducible first | exact HB.out | apply lA_ | apply lN_ | apply lD_ | refine lS_ ?_ GE718.out | refine lS_ ?_ GE719.out) | exact HB.out)) hb); clear BK718; clear BK719; clear HB; have BK718 := n0_; have BK719 := n1_; have HB := n2_; clear n0_ n1_ n2_; (try clear hb); (try clear hb2); (try clear hk); (try clear hi); have hnb63 := NB718_719.out; have hnc63 := NB719_718.out; have hcz64_0 : w62.cell? ⟨gb718, 0, none⟩ = some (.int .i64 a1_0) := (bC_ BK718.out 0).trans rfl; have hcz64_1 : w62.cell? ⟨gb718, 1, none⟩ = some (.int .i64 a1_1) := (bC_ BK718.out 1).trans rfl; have hcz64_2 : w62.cell? ⟨gb718, 2, none⟩ = some (.int .i64 a1_2) := (bC_ BK718.out 2).trans rfl; have hfz64_0 := bF_ BK718.out 0; have hfz64_1 := bF_ BK718.out 1; have hfz64_2 := bF_ BK718.out 2) | ((with_reducible refine gate_callee (f := 12) rfl ?_); refine goesL_ (some 18) rfl rfl Try.func12 (by kernel_rfl) rfl #[.int .i64 a0, .agg #[.int .i64 a1_0, .int .i64 a1_1, .int .i64 a1_2]] rfl (by (try simp only [List.map_toArray, List.map_cons, List.map_nil]); first | done | rfl) ?_; (with_reducible refine (period_New_A.calls k a0 a1_0 a1_1 a1_2 t721 t722 t723 t724 t725 t726 t727 t728 t729 t731 w _ ?side1 A7.out).mono ?_); (case side1 => repeat (first | (with_reducible first | exact HB.out | apply lA_ | apply lN_ | apply lD_ | refine lS_ ?_ GE718.out | refine lS_ ?_ GE719.out) | exact HB.out)); rintro e w65 ⟨g730, rfl, hi, hb, hb2, hge⟩; refine ⟨_, rfl, ?_⟩; have n0_ := a0_ (bB_ (g := gb718) (o := .cells #[.int .i64 a1_0, .int .i64 a1_1, .int .i64 a1_2] 23 (0, 0)) (by (with_reducible repeat first | apply bN_ | apply bD_ | apply bA_); exact BK718.out) hb2); have n1_ := a0_ (bB_ (g := gb719) (o := .cells #[.int .i64 a2_0, .int .i64 a2_1, .int .i64 a2_2] 23 (0, 0)) (by (with_reducible repeat first | apply bN_ | apply bD_ | apply bA_); exact BK719.out) hb2); have n2_ := a0_ (hb); have n3_ := a0_ (hi); have n4_ := a0_ (IsS62.ne_blk hi (bB_ (g := gb718) (o := .cells #[.int .i64 a1_0, .int .i64 a1_1, .int .i64 a1_2] 23 (0, 0)) (by (with_reducible repeat first | apply bN_ | apply bD_ | apply bA_); exact BK718.out) hb2) (by decide)); have n5_ := a0_ (Ne.symm (IsS62.ne_blk hi (bB_ (g := gb718) (o := .cells #[.int .i64 a1_0, .int .i64 a1_1, .int .i64 a1_2] 23 (0, 0)) (by (with_reducible repeat first | apply bN_ | apply bD_ | apply bA_); exact BK718.out) hb2) (by decide))); have n6_ := a0_ (IsS62.ne_blk hi (bB_ (g := gb719) (o := .cells #[.int .i64 a2_0, .int .i64 a2_1, .int .i64 a2_2] 23 (0, 0)) (by (with_reducible repeat first | apply bN_ | apply bD_ | apply bA_); exact BK719.out) hb2) (by decide)); have n7_ := a0_ (Ne.symm (IsS62.ne_blk hi (bB_ (g := gb719) (o := .cells #[.int .i64 a2_0, .int .i64 a2_1, .int .i64 a2_2] 23 (0, 0)) (by (with_reducible repeat first | apply bN_ | apply bD_ | apply bA_); exact BK719.out) hb2) (by decide))); clear BK718; clear BK719; clear HB; have BK718 := n0_; have BK719 := n1_; have HB := n2_; have HI730 := n3_; have NB730_718 := n4_; have NB718_730 := n5_; have NB730_719 := n6_; have NB719_730 := n7_; clear n0_ n1_ n2_ n3_ n4_ n5_ n6_ n7_; (try clear hb); (try clear hb2); (try clear hk); (try clear hi); have hnb66 := NB719_730.out; have hnc66 := NB730_719.out; have hcz67_0 : w65.cell? ⟨gb719, 0, none⟩ = some (.int .i64 a2_0) := (bC_ BK719.out 0).trans rfl; have hcz67_1 : w65.cell? ⟨gb719, 1, none⟩ = some (.int .i64 a2_1) := (bC_ BK719.out 1).trans rfl; have hcz67_2 : w65.cell? ⟨gb719, 2, none⟩ = some (.int .i64 a2_2) := (bC_ BK719.out 2).trans rfl; have hfz67_0 := bF_ BK719.out 0; have hfz67_1 := bF_ BK719.out 1; have hfz67_2 := bF_ BK719.out 2) | ((with_reducible refine gate_callee (f := 14) rfl ?_); refine goesL_ (some 26) rfl rfl Try.func14 (by kernel_rfl) rfl #[.pointer (some ⟨g730, 0, none⟩), .agg #[.int .i64 a2_0, .int .i64 a2_1, .int .i64 a2_2]] rfl (by (try simp only [List.map_toArray, List.map_cons, List.map_nil]); first | done | rfl) ?_; (with_reducible refine (period_Year_Index.calls k g730 t721 t722 t723 t724 t725 t726 t727 t728 t729 a2_0 a2_1 a2_2 t732 t733 t734 t735 t736 t737 t738 t739 t740 t741 t742 w _ ?side1 ?side2 A8.out).mono ?_); (case side1 => repeat (first | (with_reducible first | exact HI730.out | apply sA_ | apply sN_ | apply sD_ | refine sF_ ?_ NB730_718.out _ | refine sF_ ?_ NB730_719.out _) | exact HI730.out)); (case side2 => repeat (first | (with_reducible first | exact HB.out | apply lA_ | apply lN_ | apply lD_ | refine lS_ ?_ (sG_ HI730.out) | refine lS_ ?_ GE718.out | refine lS_ ?_ GE719.out) | exact HB.out)); rintro e w68 ⟨rfl, hi, hb, hk⟩; refine ⟨_, rfl, ?_⟩; have n0_ := a0_ (KeepBut.blk hk (g' := gb718) (o := .cells #[.int .i64 a1_0, .int .i64 a1_1, .int .i64 a1_2] 23 (0, 0)) (by (with_reducible repeat first | apply bN_ | apply bD_ | apply bA_); exact BK718.out) NB718_730.out (by simp)); have n1_ := a0_ (KeepBut.blk hk (g' := gb719) (o := .cells #[.int .i64 a2_0, .int .i64 a2_1, .int .i64 a2_2] 23 (0, 0)) (by (with_reducible repeat first | apply bN_ | apply bD_ | apply bA_); exact BK719.out) NB719_730.out (by simp)); have n2_ := a0_ (hb); have n3_ := a0_ (hi); clear BK718; clear BK719; clear HB; clear HI730; have BK718 := n0_; have BK719 := n1_; have HB := n2_; have HI730 := n3_; clear n0_ n1_ n2_ n3_; (try clear hb); (try clear hb2); (try clear hk); (try clear hi)))
        have n0_ := a0_ (bD_ BK718.out)
        have n1_ := a0_ (bD_ BK719.out)
        have n2_ := a0_ (sD_ HI730.out)
        have n3_ := a0_ (lD_ HB.out)
        clear BK718
        clear BK719
        clear HI730
        clear HB
        have BK718 := n0_
        have BK719 := n1_
        have HI730 := n2_
        have HB := n3_
        clear n0_ n1_ n2_ n3_
        refine start_ (n := 6) (S := fun w' => w'.cell? ⟨gb719, 0, none⟩ = some (.int .i64 a2_0) ∧ w'.cell? ⟨gb719, 1, none⟩ = some (.int .i64 a2_1) ∧ w'.cell? ⟨gb719, 2, none⟩ = some (.int .i64 a2_2) ∧ w'.cell? ⟨gb718, 0, none⟩ = some (.int .i64 a1_0) ∧ w'.cell? ⟨gb718, 1, none⟩ = some (.int .i64 a1_1) ∧ w'.cell? ⟨gb718, 2, none⟩ = some (.int .i64 a1_2)) (ds := []) #[false, false, false, false, false, false] (by kernel_rfl) rfl rfl ⟨(bC_ BK719.out 0).trans rfl, (bC_ BK719.out 1).trans rfl, (bC_ BK719.out 2).trans rfl, (bC_ BK718.out 0).trans rfl, (bC_ BK718.out 1).trans rfl, (bC_ BK718.out 2).trans rfl⟩ (fun hHeld => ?_)
        generalize w68.drew = w69 at BK718 BK719 HI730 HB hHeld ⊢
        refine take_ (i := 0) (N := some 29) (v := ?_) (a' := ?_) #[true, false, false, false, false, false] rfl rfl (by kernel_rfl) (fun _ _ _ h => h) (Or.inl ⟨by rfl, ?_⟩) hHeld ?_ ?_
        rotate_left
        ·rintro w' ⟨s0, s1, s2, s3, s4, s5⟩
         go_simp
         with_reducible rfl
        rotate_left
        ·simp only [Act.put, zA_, zB_, zC_, i64_w, i32_w]
         rfl
        refine take_ (i := 2) (N := some 31) (v := ?_) (a' := ?_) #[true, false, true, false, false, false] rfl rfl (by kernel_rfl) (fun _ _ _ h => h) (Or.inl ⟨by rfl, ?_⟩) hHeld ?_ ?_
        rotate_left
        ·rintro w' ⟨s0, s1, s2, s3, s4, s5⟩
         go_simp
         with_reducible rfl
        rotate_left
        ·simp only [Act.put, zA_, zB_, zC_, i64_w, i32_w]
         rfl
        refine one_ (i := 1) (N := some 30) #[true, true, true, false, false, false] rfl rfl (by kernel_rfl) (by decide) (fun K hK => ?_)
        refine goes_ Try.func23 (by kernel_rfl) rfl #[.agg #[.int .i64 a2_0, .int .i64 a2_1, .int .i64 a2_2]] (by rfl) rfl rfl (by (try simp only [List.map_toArray, List.map_cons, List.map_nil]); first | done | rfl) ?_
        with_reducible refine (stipendref03_Number.calls k a2_0 a2_1 a2_2 t743 _ A9.out).mono ?_
        rintro e w70 ⟨rfl, hb⟩
        refine ⟨_, rfl, ?_⟩
        have n0_ := a0_ (bB_ (g := gb718) (o := .cells #[.int .i64 a1_0, .int .i64 a1_1, .int .i64 a1_2] 23 (0, 0)) (by (with_reducible repeat first | apply bN_ | apply bD_ | apply bA_); exact BK718.out) hb)
        have n1_ := a0_ (bB_ (g := gb719) (o := .cells #[.int .i64 a2_0, .int .i64 a2_1, .int .i64 a2_2] 23 (0, 0)) (by (with_reducible repeat first | apply bN_ | apply bD_ | apply bA_); exact BK719.out) hb)
        have n2_ := a0_ (IsS62.below (by repeat (first | (with_reducible first | exact HI730.out | apply sA_ | apply sN_ | apply sD_ | refine sF_ ?_ NB730_718.out _ | refine sF_ ?_ NB730_719.out _) | exact HI730.out)) hb)
        have n3_ := a0_ (below_step (by repeat (first | (with_reducible first | exact HB.out | apply lA_ | apply lN_ | apply lD_ | refine lS_ ?_ (sG_ HI730.out) | refine lS_ ?_ GE718.out | refine lS_ ?_ GE719.out) | exact HB.out)) hb)
        clear BK718
        clear BK719
        clear HI730
        clear HB
        have BK718 := n0_
        have BK719 := n1_
        have HI730 := n2_
        have HB := n3_
        clear n0_ n1_ n2_ n3_
        (try clear hb)
        (try clear hb2)
        (try clear hk)
        (try clear hi)
        refine hK.out _ _ ⟨(bC_ BK719.out 0).trans rfl, (bC_ BK719.out 1).trans rfl, (bC_ BK719.out 2).trans rfl, (bC_ BK718.out 0).trans rfl, (bC_ BK718.out 1).trans rfl, (bC_ BK718.out 2).trans rfl⟩ (fun hHeld => ?_)
        clear hK K
        refine norm_ (a' := ?_) ?_ ?_
        rotate_left
        ·show Act.put _ (some 30) _ = _
         simp only [Act.put, zA_, zB_, zC_, i64_w, i32_w]
         rfl
        refine one_ (i := 3) (N := some 32) #[true, true, true, true, false, false] rfl rfl (by kernel_rfl) (by decide) (fun K hK => ?_)
        refine goes_ Try.func23 (by kernel_rfl) rfl #[.agg #[.int .i64 a1_0, .int .i64 a1_1, .int .i64 a1_2]] (by rfl) rfl rfl (by (try simp only [List.map_toArray, List.map_cons, List.map_nil]); first | done | rfl) ?_
        with_reducible refine (stipendref03_Number.calls k a1_0 a1_1 a1_2 t744 _ A10.out).mono ?_
        rintro e w71 ⟨rfl, hb⟩
        refine ⟨_, rfl, ?_⟩
        have n0_ := a0_ (bB_ (g := gb718) (o := .cells #[.int .i64 a1_0, .int .i64 a1_1, .int .i64 a1_2] 23 (0, 0)) (by (with_reducible repeat first | apply bN_ | apply bD_ | apply bA_); exact BK718.out) hb)
        have n1_ := a0_ (bB_ (g := gb719) (o := .cells #[.int .i64 a2_0, .int .i64 a2_1, .int .i64 a2_2] 23 (0, 0)) (by (with_reducible repeat first | apply bN_ | apply bD_ | apply bA_); exact BK719.out) hb)
        have n2_ := a0_ (IsS62.below (by repeat (first | (with_reducible first | exact HI730.out | apply sA_ | apply sN_ | apply sD_ | refine sF_ ?_ NB730_718.out _ | refine sF_ ?_ NB730_719.out _) | exact HI730.out)) hb)
        have n3_ := a0_ (below_step (by repeat (first | (with_reducible first | exact HB.out | apply lA_ | apply lN_ | apply lD_ | refine lS_ ?_ (sG_ HI730.out) | refine lS_ ?_ GE718.out | refine lS_ ?_ GE719.out) | exact HB.out)) hb)
        clear BK718
        clear BK719
        clear HI730
        clear HB
        have BK718 := n0_
        have BK719 := n1_
        have HI730 := n2_
        have HB := n3_
        clear n0_ n1_ n2_ n3_
        (try clear hb)
        (try clear hb2)
        (try clear hk)
        (try clear hi)
        refine hK.out _ _ ⟨(bC_ BK719.out 0).trans rfl, (bC_ BK719.out 1).trans rfl, (bC_ BK719.out 2).trans rfl, (bC_ BK718.out 0).trans rfl, (bC_ BK718.out 1).trans rfl, (bC_ BK718.out 2).trans rfl⟩ (fun hHeld => ?_)
        clear hK K
        refine norm_ (a' := ?_) ?_ ?_
        rotate_left
        ·show Act.put _ (some 32) _ = _
         simp only [Act.put, zA_, zB_, zC_, i64_w, i32_w]
         rfl
        refine pure_ (i := 4) (N := some 11) (v := ?_) (a' := ?_) #[true, true, true, true, true, false] rfl rfl (by kernel_rfl) (fun _ _ _ h => h) (Or.inl ⟨by rfl, ?_⟩) ?_ ?_
        rotate_left
        ·intro w'
         go_simp
         with_reducible rfl
        rotate_left
        ·simp only [Act.put, zA_, zB_, zC_, i64_w, i32_w]
         rfl
        refine pure_ (i := 5) (N := some 12) (v := ?_) (a' := ?_) #[true, true, true, true, true, true] rfl rfl (by kernel_rfl) (fun _ _ _ h => h) (Or.inl ⟨by rfl, ?_⟩) ?_ ?_
        rotate_left
        ·intro w'
         go_simp
         with_reducible rfl
        rotate_left
        ·simp only [Act.put, zA_, zB_, zC_, i64_w, i32_w]
         rfl
        refine done_ (by kernel_rfl) ?_
        try go_wp2_with (first | (go_at_call 18; (with_reducible refine (period_Year_End.calls g730 t734 t735 t736 t737 t738 t739 t740 t741 t742 t745 t746 t747 t748 t749 t750 t751 t752 t753 t754 t755 t756 w _ ?side1 ?side2 A39.out).mono ?_); (case side1 => repeat (first | (with_reducible first | exact HI730.out | apply sA_ | apply sN_ | apply sD_ | refine sF_ ?_ NB730_718.out _ | refine sF_ ?_ NB730_719.out _) | exact HI730.out)); (case side2 => repeat (first | (with_reducible first | exact HB.out | apply lA_ | apply lN_ | apply lD_ | refine lS_ ?_ (sG_ HI730.out) | refine lS_ ?_ GE718.out | refine lS_ ?_ GE719.out) | exact HB.out)); rintro e w72 ⟨rfl, hi, hb, hk⟩; have n0_ := a0_ (KeepBut.blk hk (g' := gb718) (o := .cells #[.int .i64 a1_0, .int .i64 a1_1, .int .i64 a1_2] 23 (0, 0)) (by (with_reducible repeat first | apply bN_ | apply bD_ | apply bA_); exact BK718.out) NB718_730.out (by simp)); have n1_ := a0_ (KeepBut.blk hk (g' := gb719) (o := .cells #[.int .i64 a2_0, .int .i64 a2_1, .int .i64 a2_2] 23 (0, 0)) (by (with_reducible repeat first | apply bN_ | apply bD_ | apply bA_); exact BK719.out) NB719_730.out (by simp)); have n2_ := a0_ (hb); have n3_ := a0_ (hi); clear BK718; clear BK719; clear HB; clear HI730; have BK718 := n0_; have BK719 := n1_; have HB := n2_; have HI730 := n3_; clear n0_ n1_ n2_ n3_; (try clear hb); (try clear hb2); (try clear hk); (try clear hi)) | (go_at_call 23; (with_reducible refine (stipendref03_Number.calls k t745 t746 t747 t757 _ A40.out).mono ?_); rintro e w73 ⟨rfl, hb⟩; have n0_ := a0_ (bB_ (g := gb718) (o := .cells #[.int .i64 a1_0, .int .i64 a1_1, .int .i64 a1_2] 23 (0, 0)) (by (with_reducible repeat first | apply bN_ | apply bD_ | apply bA_); exact BK718.out) hb); have n1_ := a0_ (bB_ (g := gb719) (o := .cells #[.int .i64 a2_0, .int .i64 a2_1, .int .i64 a2_2] 23 (0, 0)) (by (with_reducible repeat first | apply bN_ | apply bD_ | apply bA_); exact BK719.out) hb); have n2_ := a0_ (IsS62.below (by repeat (first | (with_reducible first | exact HI730.out | apply sA_ | apply sN_ | apply sD_ | refine sF_ ?_ NB730_718.out _ | refine sF_ ?_ NB730_719.out _) | exact HI730.out)) hb); have n3_ := a0_ (below_step (by repeat (first | (with_reducible first | exact HB.out | apply lA_ | apply lN_ | apply lD_ | refine lS_ ?_ (sG_ HI730.out) | refine lS_ ?_ GE718.out | refine lS_ ?_ GE719.out) | exact HB.out)) hb); clear BK718; clear BK719; clear HI730; clear HB; have BK718 := n0_; have BK719 := n1_; have HI730 := n2_; have HB := n3_; clear n0_ n1_ n2_ n3_; (try clear hb); (try clear hb2); (try clear hk); (try clear hi)) | (go_at_call 24; (with_reducible refine (period_Year_Count.calls g730 t748 t749 t750 t751 t752 t753 t754 t755 t756 t758 t759 t760 t761 t762 t763 t764 t765 t766 t767 w _ ?side1 ?side2 A59.out).mono ?_); (case side1 => repeat (first | (with_reducible first | exact HI730.out | apply sA_ | apply sN_ | apply sD_ | refine sF_ ?_ NB730_718.out _ | refine sF_ ?_ NB730_719.out _) | exact HI730.out)); (case side2 => repeat (first | (with_reducible first | exact HB.out | apply lA_ | apply lN_ | apply lD_ | refine lS_ ?_ (sG_ HI730.out) | refine lS_ ?_ GE718.out | refine lS_ ?_ GE719.out) | exact HB.out)); rintro e w74 ⟨rfl, hi, hb, hk⟩; have n0_ := a0_ (KeepBut.blk hk (g' := gb718) (o := .cells #[.int .i64 a1_0, .int .i64 a1_1, .int .i64 a1_2] 23 (0, 0)) (by (with_reducible repeat first | apply bN_ | apply bD_ | apply bA_); exact BK718.out) NB718_730.out (by simp)); have n1_ := a0_ (KeepBut.blk hk (g' := gb719) (o := .cells #[.int .i64 a2_0, .int .i64 a2_1, .int .i64 a2_2] 23 (0, 0)) (by (with_reducible repeat first | apply bN_ | apply bD_ | apply bA_); exact BK719.out) NB719_730.out (by simp)); have n2_ := a0_ (hb); have n3_ := a0_ (hi); clear BK718; clear BK719; clear HB; clear HI730; have BK718 := n0_; have BK719 := n1_; have HB := n2_; have HI730 := n3_; clear n0_ n1_ n2_ n3_; (try clear hb); (try clear hb2); (try clear hk); (try clear hi)))
        go_ret
        exact ⟨by first | rfl | (simp [errW_none, errW_some] <;> rfl) | (simp [*, errW_none, errW_some] <;> rfl), by repeat (first | (with_reducible first | exact HB.out | apply lA_ | apply lN_ | apply lD_ | refine lS_ ?_ (sG_ HI730.out) | refine lS_ ?_ GE718.out | refine lS_ ?_ GE719.out) | exact HB.out)⟩
       ·rw [if_neg c58] at H
        exact absurd H (by simp)
      ·rw [if_neg c57] at H
       exact absurd H (by simp)
  ·rw [if_neg c6] at H
   have c6b0 : period_New.made a0 a1_0 a1_1 a1_2 = false := by simpa using c6
   clear c6
   replace H := oB_ H
   obtain ⟨t768, A750, H⟩ := H
   replace H : (some true) = some r := H
   have A75 := a0_ A750
   clear A750
   obtain rfl := Option.some.inj H
   go_enter Try.func6, Try.ntmps6
   go_wp2_with (first | ((with_reducible refine gate_dst (N := 4) rfl ?_); refine box_event ?hg (N := 4) ?hd (cs := #[.int .i64 a1_0, .int .i64 a1_1, .int .i64 a1_2]) (t := 23) ?hr ?_; (case hd => rfl); (case hg => rfl); (case hr => first | (go_simp; done) | (go_simp; rfl)); intro gb718 hg w76 hbox hb; have n0_ := a0_ (below_step (by repeat (first | (with_reducible first | exact HB.out | apply lA_ | apply lN_ | apply lD_) | exact HB.out)) hb); have n1_ := a0_ (hbox); have n2_ := a0_ ((by rw [hg]; exact (below_size (by repeat (first | (with_reducible first | exact HB.out | apply lA_ | apply lN_ | apply lD_) | exact HB.out))) : w.heap.size ≤ gb718)); have n3_ := a0_ ((by rw [hg]; exact (below_size (by repeat (first | (with_reducible first | exact HB.out | apply lA_ | apply lN_ | apply lD_) | exact HB.out))) : w.heap.size ≤ gb718)); clear HB; have HB := n0_; have BK718 := n1_; have GW718 := n2_; have GE718 := n3_; clear n0_ n1_ n2_ n3_; clear hb hbox hg) | ((with_reducible refine gate_dst (N := 5) rfl ?_); refine box_event ?hg (N := 5) ?hd (cs := #[.int .i64 a2_0, .int .i64 a2_1, .int .i64 a2_2]) (t := 23) ?hr ?_; (case hd => rfl); (case hg => rfl); (case hr => first | (go_simp; done) | (go_simp; rfl)); intro gb719 hg w77 hbox hb; have n0_ := a0_ (bB_ (g := gb718) (o := .cells #[.int .i64 a1_0, .int .i64 a1_1, .int .i64 a1_2] 23 (0, 0)) (by (with_reducible repeat first | apply bN_ | apply bD_ | apply bA_); exact BK718.out) hb); have n1_ := a0_ (below_step (by repeat (first | (with_reducible first | exact HB.out | apply lA_ | apply lN_ | apply lD_ | refine lS_ ?_ GE718.out) | exact HB.out)) hb); have n2_ := a0_ (hbox); have n3_ := a0_ ((by rw [hg]; exact (below_size (by repeat (first | (with_reducible first | exact HB.out | apply lA_ | apply lN_ | apply lD_ | refine lS_ ?_ GE718.out) | exact HB.out))) : w.heap.size ≤ gb719)); have n4_ := a0_ ((by rw [hg]; exact (below_size (by repeat (first | (with_reducible first | exact HB.out | apply lA_ | apply lN_ | apply lD_ | refine lS_ ?_ GE718.out) | exact HB.out))) : w.heap.size ≤ gb719)); have n5_ := a0_ ((by rw [hg]; exact Nat.ne_of_lt (blk_lt (g := gb718) (o := .cells #[.int .i64 a1_0, .int .i64 a1_1, .int .i64 a1_2] 23 (0, 0)) (by (with_reducible repeat first | apply bN_ | apply bD_ | apply bA_); exact BK718.out)) : gb718 ≠ gb719)); have n6_ := a0_ ((by rw [hg]; exact Nat.ne_of_gt (blk_lt (g := gb718) (o := .cells #[.int .i64 a1_0, .int .i64 a1_1, .int .i64 a1_2] 23 (0, 0)) (by (with_reducible repeat first | apply bN_ | apply bD_ | apply bA_); exact BK718.out)) : gb719 ≠ gb718)); clear BK718; clear HB; have BK718 := n0_; have HB := n1_; have BK719 := n2_; have GW719 := n3_; have GE719 := n4_; have NB718_719 := n5_; have NB719_718 := n6_; clear n0_ n1_ n2_ n3_ n4_ n5_ n6_; clear hb hbox hg) | ((with_reducible refine gate_callee (f := 20) rfl ?_); refine goesL_ (some 13) rfl rfl Try.func20 (by kernel_rfl) rfl #[] rfl (by (try simp only [List.map_toArray, List.map_cons, List.map_nil]); first | done | rfl) ?_; (with_reducible refine (stipendlaw04_cuts.calls k  true _ A4.out).mono ?_); rintro e w78 ⟨rfl, hb⟩; refine ⟨_, rfl, ?_⟩; have n0_ := a0_ (bB_ (g := gb718) (o := .cells #[.int .i64 a1_0, .int .i64 a1_1, .int .i64 a1_2] 23 (0, 0)) (by (with_reducible repeat first | apply bN_ | apply bD_ | apply bA_); exact BK718.out) hb); have n1_ := a0_ (bB_ (g := gb719) (o := .cells #[.int .i64 a2_0, .int .i64 a2_1, .int .i64 a2_2] 23 (0, 0)) (by (with_reducible repeat first | apply bN_ | apply bD_ | apply bA_); exact BK719.out) hb); have n2_ := a0_ (below_step (by repeat (first | (with_reducible first | exact HB.out | apply lA_ | apply lN_ | apply lD_ | refine lS_ ?_ GE718.out | refine lS_ ?_ GE719.out) | exact HB.out)) hb); clear BK718; clear BK719; clear HB; have BK718 := n0_; have BK719 := n1_; have HB := n2_; clear n0_ n1_ n2_; (try clear hb); (try clear hb2); (try clear hk); (try clear hi); have hnb79 := NB718_719.out; have hnc79 := NB719_718.out; have hcz80_0 : w78.cell? ⟨gb718, 0, none⟩ = some (.int .i64 a1_0) := (bC_ BK718.out 0).trans rfl; have hcz80_1 : w78.cell? ⟨gb718, 1, none⟩ = some (.int .i64 a1_1) := (bC_ BK718.out 1).trans rfl; have hcz80_2 : w78.cell? ⟨gb718, 2, none⟩ = some (.int .i64 a1_2) := (bC_ BK718.out 2).trans rfl; have hfz80_0 := bF_ BK718.out 0; have hfz80_1 := bF_ BK718.out 1; have hfz80_2 := bF_ BK718.out 2) | ((with_reducible refine gate_callee (f := 12) rfl ?_); refine goesL_ (some 18) rfl rfl Try.func12 (by kernel_rfl) rfl #[.int .i64 a0, .agg #[.int .i64 a1_0, .int .i64 a1_1, .int .i64 a1_2]] rfl (by (try simp only [List.map_toArray, List.map_cons, List.map_nil]); first | done | rfl) ?_; (with_reducible refine (period_New_B.calls k a0 a1_0 a1_1 a1_2 t768 _ A75.out).mono ?_); rintro e w81 ⟨rfl, hb⟩; refine ⟨_, rfl, ?_⟩; have n0_ := a0_ (bB_ (g := gb718) (o := .cells #[.int .i64 a1_0, .int .i64 a1_1, .int .i64 a1_2] 23 (0, 0)) (by (with_reducible repeat first | apply bN_ | apply bD_ | apply bA_); exact BK718.out) hb); have n1_ := a0_ (bB_ (g := gb719) (o := .cells #[.int .i64 a2_0, .int .i64 a2_1, .int .i64 a2_2] 23 (0, 0)) (by (with_reducible repeat first | apply bN_ | apply bD_ | apply bA_); exact BK719.out) hb); have n2_ := a0_ (below_step (by repeat (first | (with_reducible first | exact HB.out | apply lA_ | apply lN_ | apply lD_ | refine lS_ ?_ GE718.out | refine lS_ ?_ GE719.out) | exact HB.out)) hb); clear BK718; clear BK719; clear HB; have BK718 := n0_; have BK719 := n1_; have HB := n2_; clear n0_ n1_ n2_; (try clear hb); (try clear hb2); (try clear hk); (try clear hi)))
   go_ret
   exact ⟨by first | rfl | (simp [errW_none, errW_some] <;> rfl) | (simp [*, errW_none, errW_some] <;> rfl), by repeat (first | (with_reducible first | exact HB.out | apply lA_ | apply lN_ | apply lD_ | refine lS_ ?_ GE718.out | refine lS_ ?_ GE719.out) | exact HB.out)⟩
 ·replace c5 := Bool.eq_false_iff.mpr c5
  subst c5
  have H1 : (none) = some r := by rw [if_neg (show ¬ (false = true) by decide)] at H; exact H
  clear H
  have H := H1
  clear H1
  exact absurd H (by simp)

/-- THE ONE PURE STATEMENT of stipendlaw04_PeriodOutside: yours. -/
def stipendlaw04_PeriodOutside.Pure : Prop := ∀ (a0 : Int) (a1_0 : Int) (a1_1 : Int) (a1_2 : Int) (a2_0 : Int) (a2_1 : Int) (a2_2 : Int), (Lit.int .i64 a0).wf = true → (Lit.int .i64 a1_0).wf = true → (Lit.int .i64 a1_1).wf = true → (Lit.int .i64 a1_2).wf = true → (Lit.int .i64 a2_0).wf = true → (Lit.int .i64 a2_1).wf = true → (Lit.int .i64 a2_2).wf = true → ∃ k, stipendlaw04_PeriodOutside.f k a0 a1_0 a1_1 a1_2 a2_0 a2_1 a2_2 = some true
theorem stipendlaw04_PeriodOutside.walk (P : stipendlaw04_PeriodOutside.Pure) (a0 : Int) (a1_0 : Int) (a1_1 : Int) (a1_2 : Int) (a2_0 : Int) (a2_1 : Int) (a2_2 : Int) (w : World) (w0 : (Lit.int .i64 a0).wf = true) (w1_0 : (Lit.int .i64 a1_0).wf = true) (w1_1 : (Lit.int .i64 a1_1).wf = true) (w1_2 : (Lit.int .i64 a1_2).wf = true) (w2_0 : (Lit.int .i64 a2_0).wf = true) (w2_1 : (Lit.int .i64 a2_1).wf = true) (w2_2 : (Lit.int .i64 a2_2).wf = true) :
  Calls Try.prog 6 #[.int .i64 a0, .agg #[.int .i64 a1_0, .int .i64 a1_1, .int .i64 a1_2], .agg #[.int .i64 a2_0, .int .i64 a2_1, .int .i64 a2_2]] w fun e w' => e = .returned (.bool true) ∧ Below w.heap.size w w' := by
 obtain ⟨k, h⟩ := P a0 a1_0 a1_1 a1_2 a2_0 a2_1 a2_2 w0 w1_0 w1_1 w1_2 w2_0 w2_1 w2_2
 refine (stipendlaw04_PeriodOutside.calls k a0 a1_0 a1_1 a1_2 a2_0 a2_1 a2_2 true w h).mono ?_
 rintro e w' ⟨rfl, hd⟩
 exact ⟨rfl, hd⟩

end Go.Proofs.Ytojinnnckfimhaa.X
