-- laid by the session's own program (xprint.py) out of Lean's print of the program; Lean checks it
import Derived.Test.YtojinnnckfimhaaX0
import Derived.Test.YtojinnnckfimhaaXperiodNewA
import Derived.Test.YtojinnnckfimhaaXperiodYearStart
import Derived.Test.YtojinnnckfimhaaXperiodlength
import Derived.Test.YtojinnnckfimhaaXperiodYearIndex
import Derived.Test.YtojinnnckfimhaaXperiodYearSpan
import Derived.Test.YtojinnnckfimhaaXstipendlaw04cuts
import Derived.Test.YtojinnnckfimhaaXstipendref03Number
import Derived.Test.YtojinnnckfimhaaXstipendref03Of
import Derived.Test.YtojinnnckfimhaaXdateCompare
namespace Go.Proofs.Ytojinnnckfimhaa.X
open Go.RowKit Go.Proofs.YtojinnnckfimhaaW.PrintWords Go.Proofs.YtojinnnckfimhaaW.PrintLast
set_option linter.unusedVariables false
set_option linter.unusedSimpArgs false

/-! ### stipendlaw04_PeriodCovers: function 7 -/
mutual
def stipendlaw04_PeriodCovers.l0 : Nat → Int → Int → Int → Int → Int → Int → Int → Int → Int → Int → Int → Int → Int → Int → Int → Option (Bool)
 | 0, _, _, _, _, _, _, _, _, _, _, _, _, _, _, _ => none
 | k + 1, x2, x9, x10, x775000, x775001, x775002, x786000, x786001, x786002, x786003, x786004, x786005, x786006, x786007, x786008 => (period_Year_Count.f x786000 x786001 x786002 x786003 x786004 x786005 x786006 x786007 x786008).bind fun bt788 => (if x10 ≤ bt788.1 then ((period_Year_Span.f k bt788.2.1 bt788.2.2.1 bt788.2.2.2.1 bt788.2.2.2.2.1 bt788.2.2.2.2.2.1 bt788.2.2.2.2.2.2.1 bt788.2.2.2.2.2.2.2.1 bt788.2.2.2.2.2.2.2.2.1 bt788.2.2.2.2.2.2.2.2.2 x10).bind fun bt798 => ((stipendref03_Number.f k bt798.1 bt798.2.1 bt798.2.2.1).bind fun t816 => ((stipendref03_Number.f k bt798.2.2.2.1 bt798.2.2.2.2.1 bt798.2.2.2.2.2.1).bind fun t817 => (if bt798.2.2.2.2.2.2.1 = 0 then (if t816 = x9 then (if t817 < t816 then (stipendlaw04_PeriodCovers.j1 k x2 x10 t817 true x775000 x775001 x775002 bt798.2.2.2.2.2.2.2.1 bt798.2.2.2.2.2.2.2.2.1 bt798.2.2.2.2.2.2.2.2.2.1 bt798.2.2.2.2.2.2.2.2.2.2.1 bt798.2.2.2.2.2.2.2.2.2.2.2.1 bt798.2.2.2.2.2.2.2.2.2.2.2.2.1 bt798.2.2.2.2.2.2.2.2.2.2.2.2.2.1 bt798.2.2.2.2.2.2.2.2.2.2.2.2.2.2.1 bt798.2.2.2.2.2.2.2.2.2.2.2.2.2.2.2 bt798.1 bt798.2.1 bt798.2.2.1 bt798.2.2.2.1 bt798.2.2.2.2.1 bt798.2.2.2.2.2.1) else (stipendlaw04_PeriodCovers.j1 k x2 x10 t817 (decide (t817 > (wrap64 (t816 + 30)))) x775000 x775001 x775002 bt798.2.2.2.2.2.2.2.1 bt798.2.2.2.2.2.2.2.2.1 bt798.2.2.2.2.2.2.2.2.2.1 bt798.2.2.2.2.2.2.2.2.2.2.1 bt798.2.2.2.2.2.2.2.2.2.2.2.1 bt798.2.2.2.2.2.2.2.2.2.2.2.2.1 bt798.2.2.2.2.2.2.2.2.2.2.2.2.2.1 bt798.2.2.2.2.2.2.2.2.2.2.2.2.2.2.1 bt798.2.2.2.2.2.2.2.2.2.2.2.2.2.2.2 bt798.1 bt798.2.1 bt798.2.2.1 bt798.2.2.2.1 bt798.2.2.2.2.1 bt798.2.2.2.2.2.1)) else (stipendlaw04_PeriodCovers.j1 k x2 x10 t817 true x775000 x775001 x775002 bt798.2.2.2.2.2.2.2.1 bt798.2.2.2.2.2.2.2.2.1 bt798.2.2.2.2.2.2.2.2.2.1 bt798.2.2.2.2.2.2.2.2.2.2.1 bt798.2.2.2.2.2.2.2.2.2.2.2.1 bt798.2.2.2.2.2.2.2.2.2.2.2.2.1 bt798.2.2.2.2.2.2.2.2.2.2.2.2.2.1 bt798.2.2.2.2.2.2.2.2.2.2.2.2.2.2.1 bt798.2.2.2.2.2.2.2.2.2.2.2.2.2.2.2 bt798.1 bt798.2.1 bt798.2.2.1 bt798.2.2.2.1 bt798.2.2.2.2.1 bt798.2.2.2.2.2.1)) else (stipendlaw04_PeriodCovers.j1 k x2 x10 t817 true x775000 x775001 x775002 bt798.2.2.2.2.2.2.2.1 bt798.2.2.2.2.2.2.2.2.1 bt798.2.2.2.2.2.2.2.2.2.1 bt798.2.2.2.2.2.2.2.2.2.2.1 bt798.2.2.2.2.2.2.2.2.2.2.2.1 bt798.2.2.2.2.2.2.2.2.2.2.2.2.1 bt798.2.2.2.2.2.2.2.2.2.2.2.2.2.1 bt798.2.2.2.2.2.2.2.2.2.2.2.2.2.2.1 bt798.2.2.2.2.2.2.2.2.2.2.2.2.2.2.2 bt798.1 bt798.2.1 bt798.2.2.1 bt798.2.2.2.1 bt798.2.2.2.2.1 bt798.2.2.2.2.2.1))))) else ((period_Year_End.f bt788.2.1 bt788.2.2.1 bt788.2.2.2.1 bt788.2.2.2.2.1 bt788.2.2.2.2.2.1 bt788.2.2.2.2.2.2.1 bt788.2.2.2.2.2.2.2.1 bt788.2.2.2.2.2.2.2.2.1 bt788.2.2.2.2.2.2.2.2.2).bind fun bt840 => ((stipendref03_Number.f k bt840.1 bt840.2.1 bt840.2.2.1).bind fun t852 => (if x9 = (wrap64 (t852 + 1)) then (if x2 < 0 then (stipendlaw04_PeriodCovers.j2 k x2 x9 true x775000 x775001 x775002 bt840.2.2.2.1 bt840.2.2.2.2.1 bt840.2.2.2.2.2.1 bt840.2.2.2.2.2.2.1 bt840.2.2.2.2.2.2.2.1 bt840.2.2.2.2.2.2.2.2.1 bt840.2.2.2.2.2.2.2.2.2.1 bt840.2.2.2.2.2.2.2.2.2.2.1 bt840.2.2.2.2.2.2.2.2.2.2.2) else (stipendlaw04_PeriodCovers.j2 k x2 x9 (decide (x2 > 400)) x775000 x775001 x775002 bt840.2.2.2.1 bt840.2.2.2.2.1 bt840.2.2.2.2.2.1 bt840.2.2.2.2.2.2.1 bt840.2.2.2.2.2.2.2.1 bt840.2.2.2.2.2.2.2.2.1 bt840.2.2.2.2.2.2.2.2.2.1 bt840.2.2.2.2.2.2.2.2.2.2.1 bt840.2.2.2.2.2.2.2.2.2.2.2)) else (none)))))
def stipendlaw04_PeriodCovers.j1 : Nat → Int → Int → Int → Bool → Int → Int → Int → Int → Int → Int → Int → Int → Int → Int → Int → Int → Int → Int → Int → Int → Int → Int → Option (Bool)
 | 0, _, _, _, _, _, _, _, _, _, _, _, _, _, _, _, _, _, _, _, _, _, _ => none
 | k + 1, x2, x10, x15, x73, x775000, x775001, x775002, x786000, x786001, x786002, x786003, x786004, x786005, x786006, x786007, x786008, x815000, x815001, x815002, x816000, x816001, x816002 => if x73 = true then (none) else ((period_Year_Index.f k x786000 x786001 x786002 x786003 x786004 x786005 x786006 x786007 x786008 x815000 x815001 x815002).bind fun bt818 => ((period_Year_Index.f k bt818.2.2.1 bt818.2.2.2.1 bt818.2.2.2.2.1 bt818.2.2.2.2.2.1 bt818.2.2.2.2.2.2.1 bt818.2.2.2.2.2.2.2.1 bt818.2.2.2.2.2.2.2.2.1 bt818.2.2.2.2.2.2.2.2.2.1 bt818.2.2.2.2.2.2.2.2.2.2 x816000 x816001 x816002).bind fun bt829 => (if bt818.2.1 = 0 then (if bt829.2.1 = 0 then (if bt818.1 = x10 then (if bt829.1 = x10 then (stipendlaw04_PeriodCovers.l0 k x2 (wrap64 (x15 + 1)) (wrap64 (x10 + 1)) x775000 x775001 x775002 bt829.2.2.1 bt829.2.2.2.1 bt829.2.2.2.2.1 bt829.2.2.2.2.2.1 bt829.2.2.2.2.2.2.1 bt829.2.2.2.2.2.2.2.1 bt829.2.2.2.2.2.2.2.2.1 bt829.2.2.2.2.2.2.2.2.2.1 bt829.2.2.2.2.2.2.2.2.2.2) else (none)) else (none)) else (none)) else (none))))
def stipendlaw04_PeriodCovers.j2 : Nat → Int → Int → Bool → Int → Int → Int → Int → Int → Int → Int → Int → Int → Int → Int → Int → Option (Bool)
 | 0, _, _, _, _, _, _, _, _, _, _, _, _, _, _, _ => none
 | k + 1, x2, x9, x115, x775000, x775001, x775002, x786000, x786001, x786002, x786003, x786004, x786005, x786006, x786007, x786008 => if x115 = true then (some true) else ((stipendref03_Number.f k x775000 x775001 x775002).bind fun t853 => ((stipendref03_Of.f k (wrap64 (t853 + x2))).bind fun bt854 => (if bt854.2.2.2 = true then ((period_Year_Index.f k x786000 x786001 x786002 x786003 x786004 x786005 x786006 x786007 x786008 bt854.1 bt854.2.1 bt854.2.2.1).bind fun bt859 => ((stipendref03_Number.f k bt854.1 bt854.2.1 bt854.2.2.1).bind fun t870 => (if t870 ≥ x9 then (if bt859.2.1 = 1 then (some (bt859.1 == 0)) else (none)) else ((period_Year_Span.f k bt859.2.2.1 bt859.2.2.2.1 bt859.2.2.2.2.1 bt859.2.2.2.2.2.1 bt859.2.2.2.2.2.2.1 bt859.2.2.2.2.2.2.2.1 bt859.2.2.2.2.2.2.2.2.1 bt859.2.2.2.2.2.2.2.2.2.1 bt859.2.2.2.2.2.2.2.2.2.2 bt859.1).bind fun bt871 => (if bt859.2.1 = 0 then ((date_Compare.f bt871.1 bt871.2.1 bt871.2.2.1 bt854.1 bt854.2.1 bt854.2.2.1).bind fun t889 => (if t889 ≤ 0 then ((date_Compare.f bt854.1 bt854.2.1 bt854.2.2.1 bt871.2.2.2.1 bt871.2.2.2.2.1 bt871.2.2.2.2.2.1).bind fun t890 => (some (decide (t890 ≤ 0)))) else (none))) else (none)))))) else (some true))))
end
def stipendlaw04_PeriodCovers.f (k : Nat) (a0 : Int) (a1_0 : Int) (a1_1 : Int) (a1_2 : Int) (a2 : Int) : Option (Bool) := (stipendlaw04_cuts.f k).bind fun t775 => (if t775 = true then (if period_New.made a0 a1_0 a1_1 a1_2 = true then ((period_New_A.f k a0 a1_0 a1_1 a1_2).bind fun bt776 => ((stipendref03_Number.f k a1_0 a1_1 a1_2).bind fun t787 => (stipendlaw04_PeriodCovers.l0 k a2 t787 1 a1_0 a1_1 a1_2 bt776.1 bt776.2.1 bt776.2.2.1 bt776.2.2.2.1 bt776.2.2.2.2.1 bt776.2.2.2.2.2.1 bt776.2.2.2.2.2.2.1 bt776.2.2.2.2.2.2.2.1 bt776.2.2.2.2.2.2.2.2.1))) else ((period_New_B.f k a0 a1_0 a1_1 a1_2).bind fun t891 => (some true))) else (none))
set_option maxHeartbeats 8000000 in
set_option maxRecDepth 100000 in
theorem stipendlaw04_PeriodCovers.calls (k : Nat) (a0 : Int) (a1_0 : Int) (a1_1 : Int) (a1_2 : Int) (a2 : Int) (r : Bool) (w : World) (h : stipendlaw04_PeriodCovers.f k a0 a1_0 a1_1 a1_2 a2 = some r) :
  Calls Try.prog 7 #[.int .i64 a0, .agg #[.int .i64 a1_0, .int .i64 a1_1, .int .i64 a1_2], .int .i64 a2] w fun e w' => e = .returned (.bool r) ∧ Below w.heap.size w w' := by
 have hu23 := Try.underlying23
 have HB := a0_ (Below.refl w.heap.size w)
 have H : ((stipendlaw04_cuts.f k).bind fun t775 => (if t775 = true then (if period_New.made a0 a1_0 a1_1 a1_2 = true then ((period_New_A.f k a0 a1_0 a1_1 a1_2).bind fun bt776 => ((stipendref03_Number.f k a1_0 a1_1 a1_2).bind fun t787 => (stipendlaw04_PeriodCovers.l0 k a2 t787 1 a1_0 a1_1 a1_2 bt776.1 bt776.2.1 bt776.2.2.1 bt776.2.2.2.1 bt776.2.2.2.2.1 bt776.2.2.2.2.2.1 bt776.2.2.2.2.2.2.1 bt776.2.2.2.2.2.2.2.1 bt776.2.2.2.2.2.2.2.2.1))) else ((period_New_B.f k a0 a1_0 a1_1 a1_2).bind fun t891 => (some true))) else (none))) = some r := h
 clear h
 replace H := oB_ H
 obtain ⟨t775, A40, H⟩ := H
 replace H : (if t775 = true then (if period_New.made a0 a1_0 a1_1 a1_2 = true then ((period_New_A.f k a0 a1_0 a1_1 a1_2).bind fun bt776 => ((stipendref03_Number.f k a1_0 a1_1 a1_2).bind fun t787 => (stipendlaw04_PeriodCovers.l0 k a2 t787 1 a1_0 a1_1 a1_2 bt776.1 bt776.2.1 bt776.2.2.1 bt776.2.2.2.1 bt776.2.2.2.2.1 bt776.2.2.2.2.2.1 bt776.2.2.2.2.2.2.1 bt776.2.2.2.2.2.2.2.1 bt776.2.2.2.2.2.2.2.2.1))) else ((period_New_B.f k a0 a1_0 a1_1 a1_2).bind fun t891 => (some true))) else (none)) = some r := H
 have A4 := a0_ A40
 clear A40
 by_cases c5 : t775 = true
 ·subst c5
  have H1 : (if period_New.made a0 a1_0 a1_1 a1_2 = true then ((period_New_A.f k a0 a1_0 a1_1 a1_2).bind fun bt776 => ((stipendref03_Number.f k a1_0 a1_1 a1_2).bind fun t787 => (stipendlaw04_PeriodCovers.l0 k a2 t787 1 a1_0 a1_1 a1_2 bt776.1 bt776.2.1 bt776.2.2.1 bt776.2.2.2.1 bt776.2.2.2.2.1 bt776.2.2.2.2.2.1 bt776.2.2.2.2.2.2.1 bt776.2.2.2.2.2.2.2.1 bt776.2.2.2.2.2.2.2.2.1))) else ((period_New_B.f k a0 a1_0 a1_1 a1_2).bind fun t891 => (some true))) = some r := by rw [if_pos rfl] at H; exact H
  clear H
  have H := H1
  clear H1
  by_cases c6 : period_New.made a0 a1_0 a1_1 a1_2 = true
  ·rw [if_pos c6] at H
   have c6b0 : period_New.made a0 a1_0 a1_1 a1_2 = true := c6
   clear c6
   replace H := oB_ H
   obtain ⟨⟨t776, t777, t778, t779, t780, t781, t782, t783, t784, t786⟩, A70, H⟩ := H
   replace H : ((stipendref03_Number.f k a1_0 a1_1 a1_2).bind fun t787 => (stipendlaw04_PeriodCovers.l0 k a2 t787 1 a1_0 a1_1 a1_2 t776 t777 t778 t779 t780 t781 t782 t783 t784)) = some r := H
   have A7 := a0_ A70
   clear A70
   replace H := oB_ H
   obtain ⟨t787, A80, H⟩ := H
   replace H : (stipendlaw04_PeriodCovers.l0 k a2 t787 1 a1_0 a1_1 a1_2 t776 t777 t778 t779 t780 t781 t782 t783 t784) = some r := H
   have A8 := a0_ A80
   clear A80
   have H' := a0_ H
   clear H
   go_enter Try.func7, Try.ntmps7
   go_wp2_with (first | ((with_reducible refine gate_dst (N := 4) rfl ?_); refine box_event ?hg (N := 4) ?hd (cs := #[.int .i64 a1_0, .int .i64 a1_1, .int .i64 a1_2]) (t := 23) ?hr ?_; (case hd => rfl); (case hg => rfl); (case hr => first | (go_simp; done) | (go_simp; rfl)); intro gb774 hg w9 hbox hb; have n0_ := a0_ (below_step (by repeat (first | (with_reducible first | exact HB.out | apply lA_ | apply lN_ | apply lD_) | exact HB.out)) hb); have n1_ := a0_ (hbox); have n2_ := a0_ ((by rw [hg]; exact (below_size (by repeat (first | (with_reducible first | exact HB.out | apply lA_ | apply lN_ | apply lD_) | exact HB.out))) : w.heap.size ≤ gb774)); have n3_ := a0_ ((by rw [hg]; exact (below_size (by repeat (first | (with_reducible first | exact HB.out | apply lA_ | apply lN_ | apply lD_) | exact HB.out))) : w.heap.size ≤ gb774)); clear HB; have HB := n0_; have BK774 := n1_; have GW774 := n2_; have GE774 := n3_; clear n0_ n1_ n2_ n3_; clear hb hbox hg) | ((with_reducible refine gate_callee (f := 20) rfl ?_); refine goesL_ (some 27) rfl rfl Try.func20 (by kernel_rfl) rfl #[] rfl (by (try simp only [List.map_toArray, List.map_cons, List.map_nil]); first | done | rfl) ?_; (with_reducible refine (stipendlaw04_cuts.calls k  true _ A4.out).mono ?_); rintro e w10 ⟨rfl, hb⟩; refine ⟨_, rfl, ?_⟩; have n0_ := a0_ (bB_ (g := gb774) (o := .cells #[.int .i64 a1_0, .int .i64 a1_1, .int .i64 a1_2] 23 (0, 0)) (by (with_reducible repeat first | apply bN_ | apply bD_ | apply bA_); exact BK774.out) hb); have n1_ := a0_ (below_step (by repeat (first | (with_reducible first | exact HB.out | apply lA_ | apply lN_ | apply lD_ | refine lS_ ?_ GE774.out) | exact HB.out)) hb); clear BK774; clear HB; have BK774 := n0_; have HB := n1_; clear n0_ n1_; (try clear hb); (try clear hb2); (try clear hk); (try clear hi); have hcz11_0 : w10.cell? ⟨gb774, 0, none⟩ = some (.int .i64 a1_0) := (bC_ BK774.out 0).trans rfl; have hcz11_1 : w10.cell? ⟨gb774, 1, none⟩ = some (.int .i64 a1_1) := (bC_ BK774.out 1).trans rfl; have hcz11_2 : w10.cell? ⟨gb774, 2, none⟩ = some (.int .i64 a1_2) := (bC_ BK774.out 2).trans rfl; have hfz11_0 := bF_ BK774.out 0; have hfz11_1 := bF_ BK774.out 1; have hfz11_2 := bF_ BK774.out 2) | ((with_reducible refine gate_callee (f := 12) rfl ?_); refine goesL_ (some 32) rfl rfl Try.func12 (by kernel_rfl) rfl #[.int .i64 a0, .agg #[.int .i64 a1_0, .int .i64 a1_1, .int .i64 a1_2]] rfl (by (try simp only [List.map_toArray, List.map_cons, List.map_nil]); first | done | rfl) ?_; (with_reducible refine (period_New_A.calls k a0 a1_0 a1_1 a1_2 t776 t777 t778 t779 t780 t781 t782 t783 t784 t786 w _ ?side1 A7.out).mono ?_); (case side1 => repeat (first | (with_reducible first | exact HB.out | apply lA_ | apply lN_ | apply lD_ | refine lS_ ?_ GE774.out) | exact HB.out)); rintro e w12 ⟨g785, rfl, hi, hb, hb2, hge⟩; refine ⟨_, rfl, ?_⟩; have n0_ := a0_ (bB_ (g := gb774) (o := .cells #[.int .i64 a1_0, .int .i64 a1_1, .int .i64 a1_2] 23 (0, 0)) (by (with_reducible repeat first | apply bN_ | apply bD_ | apply bA_); exact BK774.out) hb2); have n1_ := a0_ (hb); have n2_ := a0_ (hi); have n3_ := a0_ (IsS62.ne_blk hi (bB_ (g := gb774) (o := .cells #[.int .i64 a1_0, .int .i64 a1_1, .int .i64 a1_2] 23 (0, 0)) (by (with_reducible repeat first | apply bN_ | apply bD_ | apply bA_); exact BK774.out) hb2) (by decide)); have n4_ := a0_ (Ne.symm (IsS62.ne_blk hi (bB_ (g := gb774) (o := .cells #[.int .i64 a1_0, .int .i64 a1_1, .int .i64 a1_2] 23 (0, 0)) (by (with_reducible repeat first | apply bN_ | apply bD_ | apply bA_); exact BK774.out) hb2) (by decide))); clear BK774; clear HB; have BK774 := n0_; have HB := n1_; have HI785 := n2_; have NB785_774 := n3_; have NB774_785 := n4_; clear n0_ n1_ n2_ n3_ n4_; (try clear hb); (try clear hb2); (try clear hk); (try clear hi); have hnb13 := NB774_785.out; have hnc13 := NB785_774.out; have hcz14_0 : w12.cell? ⟨gb774, 0, none⟩ = some (.int .i64 a1_0) := (bC_ BK774.out 0).trans rfl; have hcz14_1 : w12.cell? ⟨gb774, 1, none⟩ = some (.int .i64 a1_1) := (bC_ BK774.out 1).trans rfl; have hcz14_2 : w12.cell? ⟨gb774, 2, none⟩ = some (.int .i64 a1_2) := (bC_ BK774.out 2).trans rfl; have hfz14_0 := bF_ BK774.out 0; have hfz14_1 := bF_ BK774.out 1; have hfz14_2 := bF_ BK774.out 2) | ((with_reducible refine gate_callee (f := 23) rfl ?_); refine goesL_ (some 38) rfl rfl Try.func23 (by kernel_rfl) rfl #[.agg #[.int .i64 a1_0, .int .i64 a1_1, .int .i64 a1_2]] rfl (by (try simp only [List.map_toArray, List.map_cons, List.map_nil]); first | done | rfl) ?_; (with_reducible refine (stipendref03_Number.calls k a1_0 a1_1 a1_2 t787 _ A8.out).mono ?_); rintro e w15 ⟨rfl, hb⟩; refine ⟨_, rfl, ?_⟩; have n0_ := a0_ (bB_ (g := gb774) (o := .cells #[.int .i64 a1_0, .int .i64 a1_1, .int .i64 a1_2] 23 (0, 0)) (by (with_reducible repeat first | apply bN_ | apply bD_ | apply bA_); exact BK774.out) hb); have n1_ := a0_ (IsS62.below (by repeat (first | (with_reducible first | exact HI785.out | apply sA_ | apply sN_ | apply sD_ | refine sF_ ?_ NB785_774.out _) | exact HI785.out)) hb); have n2_ := a0_ (below_step (by repeat (first | (with_reducible first | exact HB.out | apply lA_ | apply lN_ | apply lD_ | refine lS_ ?_ (sG_ HI785.out) | refine lS_ ?_ GE774.out) | exact HB.out)) hb); clear BK774; clear HI785; clear HB; have BK774 := n0_; have HI785 := n1_; have HB := n2_; clear n0_ n1_ n2_; (try clear hb); (try clear hb2); (try clear hk); (try clear hi)))
   go_loopg [9, 10] k (fun kq v9 v10 w' => ∃ (x9_1 : Int) (x10_1 : Int) (x786000_1 : Int) (x786001_1 : Int) (x786002_1 : Int) (x786003_1 : Int) (x786004_1 : Int) (x786005_1 : Int) (x786006_1 : Int) (x786007_1 : Int) (x786008_1 : Int), v9 = .int .i64 x9_1 ∧ v10 = .int .i64 x10_1 ∧ Aside0 (stipendlaw04_PeriodCovers.l0 kq a2 x9_1 x10_1 a1_0 a1_1 a1_2 x786000_1 x786001_1 x786002_1 x786003_1 x786004_1 x786005_1 x786006_1 x786007_1 x786008_1 = some r) ∧ Aside0 (kq ≤ k) ∧ Aside0 (w'.heap[gb774]? = some (.cells #[.int .i64 a1_0, .int .i64 a1_1, .int .i64 a1_2] 23 (0, 0))) ∧ Aside0 (IsS62 w w' g785 x786000_1 x786001_1 x786002_1 x786003_1 x786004_1 x786005_1 x786006_1 x786007_1 x786008_1) ∧ Aside0 (Below w.heap.size w w'))
   case atStart => exact ⟨(t787), (1), (t776), (t777), (t778), (t779), (t780), (t781), (t782), (t783), (t784), (by first | rfl | (simp; done) | (simp [*]; done)), (by first | rfl | (simp; done) | (simp [*]; done)), H', ⟨Nat.le_refl _⟩, ⟨by (with_reducible repeat first | apply bN_ | apply bD_ | apply bA_); exact BK774.out⟩, ⟨by repeat (first | (with_reducible first | exact HI785.out | apply sA_ | apply sN_ | apply sD_ | refine sF_ ?_ NB785_774.out _) | exact HI785.out)⟩, ⟨by repeat (first | (with_reducible first | exact HB.out | apply lA_ | apply lN_ | apply lD_ | refine lS_ ?_ (sG_ HI785.out) | refine lS_ ?_ GE774.out) | exact HB.out)⟩⟩
   case round =>
    clear H'
    try clear c5
    try clear c6
    try clear c6b0
    try clear hcz11_0
    try clear hcz11_1
    try clear hcz11_2
    try clear hcz14_0
    try clear hcz14_1
    try clear hcz14_2
    try clear hfz11_0
    try clear hfz11_1
    try clear hfz11_2
    try clear hfz14_0
    try clear hfz14_1
    try clear hfz14_2
    obtain ⟨x9_1, x10_1, x786000_1, x786001_1, x786002_1, x786003_1, x786004_1, x786005_1, x786006_1, x786007_1, x786008_1, rfl, rfl, HA, HK1, BK774, HI785, HB⟩ := hrel
    cases gk with
    | zero => exact absurd HA.out (by simp [stipendlaw04_PeriodCovers.l0])
    | succ k1 =>
     have H := HA.out
     clear HA
     simp only [stipendlaw04_PeriodCovers.l0] at H
     replace H := oB_ H
     obtain ⟨⟨t788, t789, t790, t791, t792, t793, t794, t795, t796, t797⟩, A160, H⟩ := H
     replace H : (if x10_1 ≤ t788 then ((period_Year_Span.f k1 t789 t790 t791 t792 t793 t794 t795 t796 t797 x10_1).bind fun bt798 => ((stipendref03_Number.f k1 bt798.1 bt798.2.1 bt798.2.2.1).bind fun t816 => ((stipendref03_Number.f k1 bt798.2.2.2.1 bt798.2.2.2.2.1 bt798.2.2.2.2.2.1).bind fun t817 => (if bt798.2.2.2.2.2.2.1 = 0 then (if t816 = x9_1 then (if t817 < t816 then (stipendlaw04_PeriodCovers.j1 k1 a2 x10_1 t817 true a1_0 a1_1 a1_2 bt798.2.2.2.2.2.2.2.1 bt798.2.2.2.2.2.2.2.2.1 bt798.2.2.2.2.2.2.2.2.2.1 bt798.2.2.2.2.2.2.2.2.2.2.1 bt798.2.2.2.2.2.2.2.2.2.2.2.1 bt798.2.2.2.2.2.2.2.2.2.2.2.2.1 bt798.2.2.2.2.2.2.2.2.2.2.2.2.2.1 bt798.2.2.2.2.2.2.2.2.2.2.2.2.2.2.1 bt798.2.2.2.2.2.2.2.2.2.2.2.2.2.2.2 bt798.1 bt798.2.1 bt798.2.2.1 bt798.2.2.2.1 bt798.2.2.2.2.1 bt798.2.2.2.2.2.1) else (stipendlaw04_PeriodCovers.j1 k1 a2 x10_1 t817 (decide (t817 > (wrap64 (t816 + 30)))) a1_0 a1_1 a1_2 bt798.2.2.2.2.2.2.2.1 bt798.2.2.2.2.2.2.2.2.1 bt798.2.2.2.2.2.2.2.2.2.1 bt798.2.2.2.2.2.2.2.2.2.2.1 bt798.2.2.2.2.2.2.2.2.2.2.2.1 bt798.2.2.2.2.2.2.2.2.2.2.2.2.1 bt798.2.2.2.2.2.2.2.2.2.2.2.2.2.1 bt798.2.2.2.2.2.2.2.2.2.2.2.2.2.2.1 bt798.2.2.2.2.2.2.2.2.2.2.2.2.2.2.2 bt798.1 bt798.2.1 bt798.2.2.1 bt798.2.2.2.1 bt798.2.2.2.2.1 bt798.2.2.2.2.2.1)) else (stipendlaw04_PeriodCovers.j1 k1 a2 x10_1 t817 true a1_0 a1_1 a1_2 bt798.2.2.2.2.2.2.2.1 bt798.2.2.2.2.2.2.2.2.1 bt798.2.2.2.2.2.2.2.2.2.1 bt798.2.2.2.2.2.2.2.2.2.2.1 bt798.2.2.2.2.2.2.2.2.2.2.2.1 bt798.2.2.2.2.2.2.2.2.2.2.2.2.1 bt798.2.2.2.2.2.2.2.2.2.2.2.2.2.1 bt798.2.2.2.2.2.2.2.2.2.2.2.2.2.2.1 bt798.2.2.2.2.2.2.2.2.2.2.2.2.2.2.2 bt798.1 bt798.2.1 bt798.2.2.1 bt798.2.2.2.1 bt798.2.2.2.2.1 bt798.2.2.2.2.2.1)) else (stipendlaw04_PeriodCovers.j1 k1 a2 x10_1 t817 true a1_0 a1_1 a1_2 bt798.2.2.2.2.2.2.2.1 bt798.2.2.2.2.2.2.2.2.1 bt798.2.2.2.2.2.2.2.2.2.1 bt798.2.2.2.2.2.2.2.2.2.2.1 bt798.2.2.2.2.2.2.2.2.2.2.2.1 bt798.2.2.2.2.2.2.2.2.2.2.2.2.1 bt798.2.2.2.2.2.2.2.2.2.2.2.2.2.1 bt798.2.2.2.2.2.2.2.2.2.2.2.2.2.2.1 bt798.2.2.2.2.2.2.2.2.2.2.2.2.2.2.2 bt798.1 bt798.2.1 bt798.2.2.1 bt798.2.2.2.1 bt798.2.2.2.2.1 bt798.2.2.2.2.2.1))))) else ((period_Year_End.f t789 t790 t791 t792 t793 t794 t795 t796 t797).bind fun bt840 => ((stipendref03_Number.f k1 bt840.1 bt840.2.1 bt840.2.2.1).bind fun t852 => (if x9_1 = (wrap64 (t852 + 1)) then (if a2 < 0 then (stipendlaw04_PeriodCovers.j2 k1 a2 x9_1 true a1_0 a1_1 a1_2 bt840.2.2.2.1 bt840.2.2.2.2.1 bt840.2.2.2.2.2.1 bt840.2.2.2.2.2.2.1 bt840.2.2.2.2.2.2.2.1 bt840.2.2.2.2.2.2.2.2.1 bt840.2.2.2.2.2.2.2.2.2.1 bt840.2.2.2.2.2.2.2.2.2.2.1 bt840.2.2.2.2.2.2.2.2.2.2.2) else (stipendlaw04_PeriodCovers.j2 k1 a2 x9_1 (decide (a2 > 400)) a1_0 a1_1 a1_2 bt840.2.2.2.1 bt840.2.2.2.2.1 bt840.2.2.2.2.2.1 bt840.2.2.2.2.2.2.1 bt840.2.2.2.2.2.2.2.1 bt840.2.2.2.2.2.2.2.2.1 bt840.2.2.2.2.2.2.2.2.2.1 bt840.2.2.2.2.2.2.2.2.2.2.1 bt840.2.2.2.2.2.2.2.2.2.2.2)) else (none))))) = some r := H
     have A16 := a0_ A160
     clear A160
     by_cases c17 : x10_1 ≤ t788
     ·rw [if_pos c17] at H
      have c17b0 : decide (x10_1 ≤ t788) = true := decide_eq_true c17
      clear c17
      replace H := oB_ H
      obtain ⟨⟨t798, t799, t800, t801, t802, t803, t804, t805, t806, t807, t808, t809, t810, t811, t812, t813⟩, A180, H⟩ := H
      replace H : ((stipendref03_Number.f k1 t798 t799 t800).bind fun t816 => ((stipendref03_Number.f k1 t801 t802 t803).bind fun t817 => (if t804 = 0 then (if t816 = x9_1 then (if t817 < t816 then (stipendlaw04_PeriodCovers.j1 k1 a2 x10_1 t817 true a1_0 a1_1 a1_2 t805 t806 t807 t808 t809 t810 t811 t812 t813 t798 t799 t800 t801 t802 t803) else (stipendlaw04_PeriodCovers.j1 k1 a2 x10_1 t817 (decide (t817 > (wrap64 (t816 + 30)))) a1_0 a1_1 a1_2 t805 t806 t807 t808 t809 t810 t811 t812 t813 t798 t799 t800 t801 t802 t803)) else (stipendlaw04_PeriodCovers.j1 k1 a2 x10_1 t817 true a1_0 a1_1 a1_2 t805 t806 t807 t808 t809 t810 t811 t812 t813 t798 t799 t800 t801 t802 t803)) else (stipendlaw04_PeriodCovers.j1 k1 a2 x10_1 t817 true a1_0 a1_1 a1_2 t805 t806 t807 t808 t809 t810 t811 t812 t813 t798 t799 t800 t801 t802 t803)))) = some r := H
      have A18 := a0_ A180
      clear A180
      replace H := oB_ H
      obtain ⟨t816, A190, H⟩ := H
      replace H : ((stipendref03_Number.f k1 t801 t802 t803).bind fun t817 => (if t804 = 0 then (if t816 = x9_1 then (if t817 < t816 then (stipendlaw04_PeriodCovers.j1 k1 a2 x10_1 t817 true a1_0 a1_1 a1_2 t805 t806 t807 t808 t809 t810 t811 t812 t813 t798 t799 t800 t801 t802 t803) else (stipendlaw04_PeriodCovers.j1 k1 a2 x10_1 t817 (decide (t817 > (wrap64 (t816 + 30)))) a1_0 a1_1 a1_2 t805 t806 t807 t808 t809 t810 t811 t812 t813 t798 t799 t800 t801 t802 t803)) else (stipendlaw04_PeriodCovers.j1 k1 a2 x10_1 t817 true a1_0 a1_1 a1_2 t805 t806 t807 t808 t809 t810 t811 t812 t813 t798 t799 t800 t801 t802 t803)) else (stipendlaw04_PeriodCovers.j1 k1 a2 x10_1 t817 true a1_0 a1_1 a1_2 t805 t806 t807 t808 t809 t810 t811 t812 t813 t798 t799 t800 t801 t802 t803))) = some r := H
      have A19 := a0_ A190
      clear A190
      replace H := oB_ H
      obtain ⟨t817, A200, H⟩ := H
      replace H : (if t804 = 0 then (if t816 = x9_1 then (if t817 < t816 then (stipendlaw04_PeriodCovers.j1 k1 a2 x10_1 t817 true a1_0 a1_1 a1_2 t805 t806 t807 t808 t809 t810 t811 t812 t813 t798 t799 t800 t801 t802 t803) else (stipendlaw04_PeriodCovers.j1 k1 a2 x10_1 t817 (decide (t817 > (wrap64 (t816 + 30)))) a1_0 a1_1 a1_2 t805 t806 t807 t808 t809 t810 t811 t812 t813 t798 t799 t800 t801 t802 t803)) else (stipendlaw04_PeriodCovers.j1 k1 a2 x10_1 t817 true a1_0 a1_1 a1_2 t805 t806 t807 t808 t809 t810 t811 t812 t813 t798 t799 t800 t801 t802 t803)) else (stipendlaw04_PeriodCovers.j1 k1 a2 x10_1 t817 true a1_0 a1_1 a1_2 t805 t806 t807 t808 t809 t810 t811 t812 t813 t798 t799 t800 t801 t802 t803)) = some r := H
      have A20 := a0_ A200
      clear A200
      have HC21 := a0_ H
      clear H
      try go_wp2_with (first | ((with_reducible refine gate_callee (f := 24) rfl ?_); refine goesL_ (some 41) rfl rfl Try.func24 (by kernel_rfl) rfl #[.pointer (some ⟨g785, 0, none⟩)] rfl (by (try simp only [List.map_toArray, List.map_cons, List.map_nil]); first | done | rfl) ?_; (with_reducible refine (period_Year_Count.calls g785 x786000_1 x786001_1 x786002_1 x786003_1 x786004_1 x786005_1 x786006_1 x786007_1 x786008_1 t788 t789 t790 t791 t792 t793 t794 t795 t796 t797 w _ ?side1 ?side2 A16.out).mono ?_); (case side1 => repeat (first | (with_reducible first | exact HI785.out | apply sA_ | apply sN_ | apply sD_ | refine sF_ ?_ NB785_774.out _) | exact HI785.out)); (case side2 => repeat (first | (with_reducible first | exact HB.out | apply lA_ | apply lN_ | apply lD_ | refine lS_ ?_ (sG_ HI785.out) | refine lS_ ?_ GE774.out) | exact HB.out)); rintro e w22 ⟨rfl, hi, hb, hk⟩; refine ⟨_, rfl, ?_⟩; have n0_ := a0_ (KeepBut.blk hk (g' := gb774) (o := .cells #[.int .i64 a1_0, .int .i64 a1_1, .int .i64 a1_2] 23 (0, 0)) (by (with_reducible repeat first | apply bN_ | apply bD_ | apply bA_); exact BK774.out) NB774_785.out (by simp)); have n1_ := a0_ (hb); have n2_ := a0_ (hi); clear BK774; clear HB; clear HI785; have BK774 := n0_; have HB := n1_; have HI785 := n2_; clear n0_ n1_ n2_; (try clear hb); (try clear hb2); (try clear hk); (try clear hi)) | ((with_reducible refine gate_callee (f := 15) rfl ?_); refine goesL_ (some 48) rfl rfl Try.func15 (by kernel_rfl) rfl #[.pointer (some ⟨g785, 0, none⟩), .int .i64 x10_1] rfl (by (try simp only [List.map_toArray, List.map_cons, List.map_nil]); first | done | rfl) ?_; (with_reducible refine (period_Year_Span.calls k1 g785 t789 t790 t791 t792 t793 t794 t795 t796 t797 x10_1 t798 t799 t800 t801 t802 t803 t804 t805 t806 t807 t808 t809 t810 t811 t812 t813 w _ ?side1 ?side2 A18.out).mono ?_); (case side1 => repeat (first | (with_reducible first | exact HI785.out | apply sA_ | apply sN_ | apply sD_ | refine sF_ ?_ NB785_774.out _) | exact HI785.out)); (case side2 => repeat (first | (with_reducible first | exact HB.out | apply lA_ | apply lN_ | apply lD_ | refine lS_ ?_ (sG_ HI785.out) | refine lS_ ?_ GE774.out) | exact HB.out)); rintro e w23 ⟨rfl, hi, hb, hk⟩; refine ⟨_, rfl, ?_⟩; have n0_ := a0_ (KeepBut.blk hk (g' := gb774) (o := .cells #[.int .i64 a1_0, .int .i64 a1_1, .int .i64 a1_2] 23 (0, 0)) (by (with_reducible repeat first | apply bN_ | apply bD_ | apply bA_); exact BK774.out) NB774_785.out (by simp)); have n1_ := a0_ (hb); have n2_ := a0_ (hi); clear BK774; clear HB; clear HI785; have BK774 := n0_; have HB := n1_; have HI785 := n2_; clear n0_ n1_ n2_; (try clear hb); (try clear hb2); (try clear hk); (try clear hi)) | ((with_reducible refine gate_dst (N := 11) rfl ?_); refine box_event ?hg (N := 11) ?hd (cs := #[.int .i64 0, .int .i64 0, .int .i64 0]) (t := 23) ?hr ?_; (case hd => rfl); (case hg => rfl); (case hr => first | (go_simp; done) | (go_simp; rfl)); intro gb814 hg w24 hbox hb; have n0_ := a0_ (bB_ (g := gb774) (o := .cells #[.int .i64 a1_0, .int .i64 a1_1, .int .i64 a1_2] 23 (0, 0)) (by (with_reducible repeat first | apply bN_ | apply bD_ | apply bA_); exact BK774.out) hb); have n1_ := a0_ (IsS62.below (by repeat (first | (with_reducible first | exact HI785.out | apply sA_ | apply sN_ | apply sD_ | refine sF_ ?_ NB785_774.out _) | exact HI785.out)) hb); have n2_ := a0_ (below_step (by repeat (first | (with_reducible first | exact HB.out | apply lA_ | apply lN_ | apply lD_ | refine lS_ ?_ (sG_ HI785.out) | refine lS_ ?_ GE774.out) | exact HB.out)) hb); have n3_ := a0_ (hbox); have n4_ := a0_ ((by rw [hg]; exact (below_size (by repeat (first | (with_reducible first | exact HB.out | apply lA_ | apply lN_ | apply lD_ | refine lS_ ?_ (sG_ HI785.out) | refine lS_ ?_ GE774.out) | exact HB.out))) : w.heap.size ≤ gb814)); have n5_ := a0_ ((by rw [hg]; exact (below_size (by repeat (first | (with_reducible first | exact HB.out | apply lA_ | apply lN_ | apply lD_ | refine lS_ ?_ (sG_ HI785.out) | refine lS_ ?_ GE774.out) | exact HB.out))) : w.heap.size ≤ gb814)); have n6_ := a0_ ((by rw [hg]; exact Nat.ne_of_lt (blk_lt (g := gb774) (o := .cells #[.int .i64 a1_0, .int .i64 a1_1, .int .i64 a1_2] 23 (0, 0)) (by (with_reducible repeat first | apply bN_ | apply bD_ | apply bA_); exact BK774.out)) : gb774 ≠ gb814)); have n7_ := a0_ ((by rw [hg]; exact Nat.ne_of_gt (blk_lt (g := gb774) (o := .cells #[.int .i64 a1_0, .int .i64 a1_1, .int .i64 a1_2] 23 (0, 0)) (by (with_reducible repeat first | apply bN_ | apply bD_ | apply bA_); exact BK774.out)) : gb814 ≠ gb774)); have n8_ := a0_ ((by rw [hg]; exact Nat.ne_of_lt (IsS62.lt (show IsS62 w _ g785 t805 t806 t807 t808 t809 t810 t811 t812 t813 from by repeat (first | (with_reducible first | exact HI785.out | apply sA_ | apply sN_ | apply sD_ | refine sF_ ?_ NB785_774.out _) | exact HI785.out))) : g785 ≠ gb814)); have n9_ := a0_ ((by rw [hg]; exact Nat.ne_of_gt (IsS62.lt (show IsS62 w _ g785 t805 t806 t807 t808 t809 t810 t811 t812 t813 from by repeat (first | (with_reducible first | exact HI785.out | apply sA_ | apply sN_ | apply sD_ | refine sF_ ?_ NB785_774.out _) | exact HI785.out))) : gb814 ≠ g785)); clear BK774; clear HI785; clear HB; have BK774 := n0_; have HI785 := n1_; have HB := n2_; have BK814 := n3_; have GW814 := n4_; have GE814 := n5_; have NB774_814 := n6_; have NB814_774 := n7_; have NB785_814 := n8_; have NB814_785 := n9_; clear n0_ n1_ n2_ n3_ n4_ n5_ n6_ n7_ n8_ n9_; clear hb hbox hg) | ((with_reducible refine gate_dst (N := 12) rfl ?_); refine box_event ?hg (N := 12) ?hd (cs := #[.int .i64 0, .int .i64 0, .int .i64 0]) (t := 23) ?hr ?_; (case hd => rfl); (case hg => rfl); (case hr => first | (go_simp; done) | (go_simp; rfl)); intro gb815 hg w25 hbox hb; have n0_ := a0_ (bB_ (g := gb774) (o := .cells #[.int .i64 a1_0, .int .i64 a1_1, .int .i64 a1_2] 23 (0, 0)) (by (with_reducible repeat first | apply bN_ | apply bD_ | apply bA_); exact BK774.out) hb); have n1_ := a0_ (IsS62.below (by repeat (first | (with_reducible first | exact HI785.out | apply sA_ | apply sN_ | apply sD_ | refine sF_ ?_ NB785_774.out _ | refine sF_ ?_ NB785_814.out _) | exact HI785.out)) hb); have n2_ := a0_ (bB_ (g := gb814) (o := .cells #[.int .i64 0, .int .i64 0, .int .i64 0] 23 (0, 0)) (by (with_reducible repeat first | apply bN_ | apply bD_ | apply bA_); exact BK814.out) hb); have n3_ := a0_ (below_step (by repeat (first | (with_reducible first | exact HB.out | apply lA_ | apply lN_ | apply lD_ | refine lS_ ?_ (sG_ HI785.out) | refine lS_ ?_ GE774.out | refine lS_ ?_ GE814.out) | exact HB.out)) hb); have n4_ := a0_ (hbox); have n5_ := a0_ ((by rw [hg]; exact (below_size (by repeat (first | (with_reducible first | exact HB.out | apply lA_ | apply lN_ | apply lD_ | refine lS_ ?_ (sG_ HI785.out) | refine lS_ ?_ GE774.out | refine lS_ ?_ GE814.out) | exact HB.out))) : w.heap.size ≤ gb815)); have n6_ := a0_ ((by rw [hg]; exact (below_size (by repeat (first | (with_reducible first | exact HB.out | apply lA_ | apply lN_ | apply lD_ | refine lS_ ?_ (sG_ HI785.out) | refine lS_ ?_ GE774.out | refine lS_ ?_ GE814.out) | exact HB.out))) : w.heap.size ≤ gb815)); have n7_ := a0_ ((by rw [hg]; exact Nat.ne_of_lt (blk_lt (g := gb774) (o := .cells #[.int .i64 a1_0, .int .i64 a1_1, .int .i64 a1_2] 23 (0, 0)) (by (with_reducible repeat first | apply bN_ | apply bD_ | apply bA_); exact BK774.out)) : gb774 ≠ gb815)); have n8_ := a0_ ((by rw [hg]; exact Nat.ne_of_gt (blk_lt (g := gb774) (o := .cells #[.int .i64 a1_0, .int .i64 a1_1, .int .i64 a1_2] 23 (0, 0)) (by (with_reducible repeat first | apply bN_ | apply bD_ | apply bA_); exact BK774.out)) : gb815 ≠ gb774)); have n9_ := a0_ ((by rw [hg]; exact Nat.ne_of_lt (blk_lt (g := gb814) (o := .cells #[.int .i64 0, .int .i64 0, .int .i64 0] 23 (0, 0)) (by (with_reducible repeat first | apply bN_ | apply bD_ | apply bA_); exact BK814.out)) : gb814 ≠ gb815)); have n10_ := a0_ ((by rw [hg]; exact Nat.ne_of_gt (blk_lt (g := gb814) (o := .cells #[.int .i64 0, .int .i64 0, .int .i64 0] 23 (0, 0)) (by (with_reducible repeat first | apply bN_ | apply bD_ | apply bA_); exact BK814.out)) : gb815 ≠ gb814)); have n11_ := a0_ ((by rw [hg]; exact Nat.ne_of_lt (IsS62.lt (show IsS62 w _ g785 t805 t806 t807 t808 t809 t810 t811 t812 t813 from by repeat (first | (with_reducible first | exact HI785.out | apply sA_ | apply sN_ | apply sD_ | refine sF_ ?_ NB785_774.out _ | refine sF_ ?_ NB785_814.out _) | exact HI785.out))) : g785 ≠ gb815)); have n12_ := a0_ ((by rw [hg]; exact Nat.ne_of_gt (IsS62.lt (show IsS62 w _ g785 t805 t806 t807 t808 t809 t810 t811 t812 t813 from by repeat (first | (with_reducible first | exact HI785.out | apply sA_ | apply sN_ | apply sD_ | refine sF_ ?_ NB785_774.out _ | refine sF_ ?_ NB785_814.out _) | exact HI785.out))) : gb815 ≠ g785)); clear BK774; clear HI785; clear BK814; clear HB; have BK774 := n0_; have HI785 := n1_; have BK814 := n2_; have HB := n3_; have BK815 := n4_; have GW815 := n5_; have GE815 := n6_; have NB774_815 := n7_; have NB815_774 := n8_; have NB814_815 := n9_; have NB815_814 := n10_; have NB785_815 := n11_; have NB815_785 := n12_; clear n0_ n1_ n2_ n3_ n4_ n5_ n6_ n7_ n8_ n9_ n10_ n11_ n12_; clear hb hbox hg; have hnb26 := NB814_774.out; have hnc26 := NB774_814.out; have hnb27 := NB814_815.out; have hnc27 := NB815_814.out; have hnb28 := NB814_785.out; have hnc28 := NB785_814.out; have hcz29_0 : w25.cell? ⟨gb814, 0, none⟩ = some (.int .i64 0) := (bC_ BK814.out 0).trans rfl; have hcz29_1 : w25.cell? ⟨gb814, 1, none⟩ = some (.int .i64 0) := (bC_ BK814.out 1).trans rfl; have hcz29_2 : w25.cell? ⟨gb814, 2, none⟩ = some (.int .i64 0) := (bC_ BK814.out 2).trans rfl; have hfz29_0 := bF_ BK814.out 0; have hfz29_1 := bF_ BK814.out 1; have hfz29_2 := bF_ BK814.out 2; have hnb30 := NB815_774.out; have hnc30 := NB774_815.out; have hnb31 := NB815_785.out; have hnc31 := NB785_815.out; have hcz32_0 : w25.cell? ⟨gb815, 0, none⟩ = some (.int .i64 0) := (bC_ BK815.out 0).trans rfl; have hcz32_1 : w25.cell? ⟨gb815, 1, none⟩ = some (.int .i64 0) := (bC_ BK815.out 1).trans rfl; have hcz32_2 : w25.cell? ⟨gb815, 2, none⟩ = some (.int .i64 0) := (bC_ BK815.out 2).trans rfl; have hfz32_0 := bF_ BK815.out 0; have hfz32_1 := bF_ BK815.out 1; have hfz32_2 := bF_ BK815.out 2))
      have n0_ : Aside0 (((((((w25.setCell ⟨gb814, 0, none⟩ (.int .i64 t798)).setCell ⟨gb814, 1, none⟩ (.int .i64 t799)).setCell ⟨gb814, 2, none⟩ (.int .i64 t800)).setCell ⟨gb815, 0, none⟩ (.int .i64 t801)).setCell ⟨gb815, 1, none⟩ (.int .i64 t802)).setCell ⟨gb815, 2, none⟩ (.int .i64 t803)).heap[gb774]? = some (.cells #[.int .i64 a1_0, .int .i64 a1_1, .int .i64 a1_2] 23 (0, 0))) := ⟨by (with_reducible repeat first | apply bN_ | apply bD_ | apply bA_); refine blk_far ?_ NB774_815.out _; (with_reducible repeat first | apply bN_ | apply bD_ | apply bA_); refine blk_far ?_ NB774_815.out _; (with_reducible repeat first | apply bN_ | apply bD_ | apply bA_); refine blk_far ?_ NB774_815.out _; (with_reducible repeat first | apply bN_ | apply bD_ | apply bA_); refine blk_far ?_ NB774_814.out _; (with_reducible repeat first | apply bN_ | apply bD_ | apply bA_); refine blk_far ?_ NB774_814.out _; (with_reducible repeat first | apply bN_ | apply bD_ | apply bA_); refine blk_far ?_ NB774_814.out _; (with_reducible repeat first | apply bN_ | apply bD_ | apply bA_); exact BK774.out⟩
      have n1_ : Aside0 (((((((w25.setCell ⟨gb814, 0, none⟩ (.int .i64 t798)).setCell ⟨gb814, 1, none⟩ (.int .i64 t799)).setCell ⟨gb814, 2, none⟩ (.int .i64 t800)).setCell ⟨gb815, 0, none⟩ (.int .i64 t801)).setCell ⟨gb815, 1, none⟩ (.int .i64 t802)).setCell ⟨gb815, 2, none⟩ (.int .i64 t803)).heap[gb814]? = some (.cells #[.int .i64 t798, .int .i64 t799, .int .i64 t800] 23 (0, 0))) := ⟨by (with_reducible repeat first | apply bN_ | apply bD_ | apply bA_); refine blk_far ?_ NB814_815.out _; (with_reducible repeat first | apply bN_ | apply bD_ | apply bA_); refine blk_far ?_ NB814_815.out _; (with_reducible repeat first | apply bN_ | apply bD_ | apply bA_); refine blk_far ?_ NB814_815.out _; (with_reducible repeat first | apply bN_ | apply bD_ | apply bA_); refine blk_put (cs := #[.int .i64 t798, .int .i64 t799, .int .i64 0]) ?_ 2 _ rfl; (with_reducible repeat first | apply bN_ | apply bD_ | apply bA_); refine blk_put (cs := #[.int .i64 t798, .int .i64 0, .int .i64 0]) ?_ 1 _ rfl; (with_reducible repeat first | apply bN_ | apply bD_ | apply bA_); refine blk_put (cs := #[.int .i64 0, .int .i64 0, .int .i64 0]) ?_ 0 _ rfl; (with_reducible repeat first | apply bN_ | apply bD_ | apply bA_); exact BK814.out⟩
      have n2_ : Aside0 (((((((w25.setCell ⟨gb814, 0, none⟩ (.int .i64 t798)).setCell ⟨gb814, 1, none⟩ (.int .i64 t799)).setCell ⟨gb814, 2, none⟩ (.int .i64 t800)).setCell ⟨gb815, 0, none⟩ (.int .i64 t801)).setCell ⟨gb815, 1, none⟩ (.int .i64 t802)).setCell ⟨gb815, 2, none⟩ (.int .i64 t803)).heap[gb815]? = some (.cells #[.int .i64 t801, .int .i64 t802, .int .i64 t803] 23 (0, 0))) := ⟨by (with_reducible repeat first | apply bN_ | apply bD_ | apply bA_); refine blk_put (cs := #[.int .i64 t801, .int .i64 t802, .int .i64 0]) ?_ 2 _ rfl; (with_reducible repeat first | apply bN_ | apply bD_ | apply bA_); refine blk_put (cs := #[.int .i64 t801, .int .i64 0, .int .i64 0]) ?_ 1 _ rfl; (with_reducible repeat first | apply bN_ | apply bD_ | apply bA_); refine blk_put (cs := #[.int .i64 0, .int .i64 0, .int .i64 0]) ?_ 0 _ rfl; (with_reducible repeat first | apply bN_ | apply bD_ | apply bA_); refine blk_far ?_ NB815_814.out _; (with_reducible repeat first | apply bN_ | apply bD_ | apply bA_); refine blk_far ?_ NB815_814.out _; (with_reducible repeat first | apply bN_ | apply bD_ | apply bA_); refine blk_far ?_ NB815_814.out _; (with_reducible repeat first | apply bN_ | apply bD_ | apply bA_); exact BK815.out⟩
      have n3_ : Aside0 (IsS62 w ((((((w25.setCell ⟨gb814, 0, none⟩ (.int .i64 t798)).setCell ⟨gb814, 1, none⟩ (.int .i64 t799)).setCell ⟨gb814, 2, none⟩ (.int .i64 t800)).setCell ⟨gb815, 0, none⟩ (.int .i64 t801)).setCell ⟨gb815, 1, none⟩ (.int .i64 t802)).setCell ⟨gb815, 2, none⟩ (.int .i64 t803)) g785 t805 t806 t807 t808 t809 t810 t811 t812 t813) := ⟨by repeat (first | (with_reducible first | exact HI785.out | apply sA_ | apply sN_ | apply sD_ | refine sF_ ?_ NB785_774.out _ | refine sF_ ?_ NB785_814.out _ | refine sF_ ?_ NB785_815.out _) | exact HI785.out)⟩
      have n4_ : Aside0 (Below w.heap.size w ((((((w25.setCell ⟨gb814, 0, none⟩ (.int .i64 t798)).setCell ⟨gb814, 1, none⟩ (.int .i64 t799)).setCell ⟨gb814, 2, none⟩ (.int .i64 t800)).setCell ⟨gb815, 0, none⟩ (.int .i64 t801)).setCell ⟨gb815, 1, none⟩ (.int .i64 t802)).setCell ⟨gb815, 2, none⟩ (.int .i64 t803))) := ⟨by repeat (first | (with_reducible first | exact HB.out | apply lA_ | apply lN_ | apply lD_ | refine lS_ ?_ (sG_ HI785.out) | refine lS_ ?_ GE774.out | refine lS_ ?_ GE814.out | refine lS_ ?_ GE815.out) | exact HB.out)⟩
      (try clear BK774)
      (try clear BK814)
      (try clear BK815)
      (try clear HI785)
      (try clear HB)
      generalize ((((((w25.setCell ⟨gb814, 0, none⟩ (.int .i64 t798)).setCell ⟨gb814, 1, none⟩ (.int .i64 t799)).setCell ⟨gb814, 2, none⟩ (.int .i64 t800)).setCell ⟨gb815, 0, none⟩ (.int .i64 t801)).setCell ⟨gb815, 1, none⟩ (.int .i64 t802)).setCell ⟨gb815, 2, none⟩ (.int .i64 t803)) = w33 at n0_ n1_ n2_ n3_ n4_ ⊢
      have BK774 := n0_
      have BK814 := n1_
      have BK815 := n2_
      have HI785 := n3_
      have HB := n4_
      clear n0_ n1_ n2_ n3_ n4_
      have n0_ := a0_ (bD_ BK774.out)
      have n1_ := a0_ (bD_ BK814.out)
      have n2_ := a0_ (bD_ BK815.out)
      have n3_ := a0_ (sD_ HI785.out)
      have n4_ := a0_ (lD_ HB.out)
      clear BK774
      clear BK814
      clear BK815
      clear HI785
      clear HB
      have BK774 := n0_
      have BK814 := n1_
      have BK815 := n2_
      have HI785 := n3_
      have HB := n4_
      clear n0_ n1_ n2_ n3_ n4_
      refine start_ (n := 6) (S := fun w' => w'.cell? ⟨gb814, 0, none⟩ = some (.int .i64 t798) ∧ w'.cell? ⟨gb814, 1, none⟩ = some (.int .i64 t799) ∧ w'.cell? ⟨gb814, 2, none⟩ = some (.int .i64 t800) ∧ w'.cell? ⟨gb815, 0, none⟩ = some (.int .i64 t801) ∧ w'.cell? ⟨gb815, 1, none⟩ = some (.int .i64 t802) ∧ w'.cell? ⟨gb815, 2, none⟩ = some (.int .i64 t803)) (ds := []) #[false, false, false, false, false, false] (by kernel_rfl) rfl rfl ⟨(bC_ BK814.out 0).trans rfl, (bC_ BK814.out 1).trans rfl, (bC_ BK814.out 2).trans rfl, (bC_ BK815.out 0).trans rfl, (bC_ BK815.out 1).trans rfl, (bC_ BK815.out 2).trans rfl⟩ (fun hHeld => ?_)
      generalize w33.drew = w34 at BK774 BK814 BK815 HI785 HB hHeld ⊢
      refine take_ (i := 0) (N := some 52) (v := ?_) (a' := ?_) #[true, false, false, false, false, false] rfl rfl (by kernel_rfl) (fun _ _ _ h => h) (Or.inl ⟨by rfl, ?_⟩) hHeld ?_ ?_
      rotate_left
      ·rintro w' ⟨s0, s1, s2, s3, s4, s5⟩
       go_simp
       with_reducible rfl
      rotate_left
      ·simp only [Act.put, zA_, zB_, zC_, i64_w, i32_w]
       rfl
      refine take_ (i := 2) (N := some 54) (v := ?_) (a' := ?_) #[true, false, true, false, false, false] rfl rfl (by kernel_rfl) (fun _ _ _ h => h) (Or.inl ⟨by rfl, ?_⟩) hHeld ?_ ?_
      rotate_left
      ·rintro w' ⟨s0, s1, s2, s3, s4, s5⟩
       go_simp
       with_reducible rfl
      rotate_left
      ·simp only [Act.put, zA_, zB_, zC_, i64_w, i32_w]
       rfl
      refine one_ (i := 1) (N := some 53) #[true, true, true, false, false, false] rfl rfl (by kernel_rfl) (by decide) (fun K hK => ?_)
      refine goes_ Try.func23 (by kernel_rfl) rfl #[.agg #[.int .i64 t798, .int .i64 t799, .int .i64 t800]] (by rfl) rfl rfl (by (try simp only [List.map_toArray, List.map_cons, List.map_nil]); first | done | rfl) ?_
      with_reducible refine (stipendref03_Number.calls k1 t798 t799 t800 t816 _ A19.out).mono ?_
      rintro e w35 ⟨rfl, hb⟩
      refine ⟨_, rfl, ?_⟩
      have n0_ := a0_ (bB_ (g := gb774) (o := .cells #[.int .i64 a1_0, .int .i64 a1_1, .int .i64 a1_2] 23 (0, 0)) (by (with_reducible repeat first | apply bN_ | apply bD_ | apply bA_); exact BK774.out) hb)
      have n1_ := a0_ (IsS62.below (by repeat (first | (with_reducible first | exact HI785.out | apply sA_ | apply sN_ | apply sD_ | refine sF_ ?_ NB785_774.out _ | refine sF_ ?_ NB785_814.out _ | refine sF_ ?_ NB785_815.out _) | exact HI785.out)) hb)
      have n2_ := a0_ (bB_ (g := gb814) (o := .cells #[.int .i64 t798, .int .i64 t799, .int .i64 t800] 23 (0, 0)) (by (with_reducible repeat first | apply bN_ | apply bD_ | apply bA_); exact BK814.out) hb)
      have n3_ := a0_ (bB_ (g := gb815) (o := .cells #[.int .i64 t801, .int .i64 t802, .int .i64 t803] 23 (0, 0)) (by (with_reducible repeat first | apply bN_ | apply bD_ | apply bA_); exact BK815.out) hb)
      have n4_ := a0_ (below_step (by repeat (first | (with_reducible first | exact HB.out | apply lA_ | apply lN_ | apply lD_ | refine lS_ ?_ (sG_ HI785.out) | refine lS_ ?_ GE774.out | refine lS_ ?_ GE814.out | refine lS_ ?_ GE815.out) | exact HB.out)) hb)
      clear BK774
      clear HI785
      clear BK814
      clear BK815
      clear HB
      have BK774 := n0_
      have HI785 := n1_
      have BK814 := n2_
      have BK815 := n3_
      have HB := n4_
      clear n0_ n1_ n2_ n3_ n4_
      (try clear hb)
      (try clear hb2)
      (try clear hk)
      (try clear hi)
      refine hK.out _ _ ⟨(bC_ BK814.out 0).trans rfl, (bC_ BK814.out 1).trans rfl, (bC_ BK814.out 2).trans rfl, (bC_ BK815.out 0).trans rfl, (bC_ BK815.out 1).trans rfl, (bC_ BK815.out 2).trans rfl⟩ (fun hHeld => ?_)
      clear hK K
      refine norm_ (a' := ?_) ?_ ?_
      rotate_left
      ·show Act.put _ (some 53) _ = _
       simp only [Act.put, zA_, zB_, zC_, i64_w, i32_w]
       rfl
      refine one_ (i := 3) (N := some 55) #[true, true, true, true, false, false] rfl rfl (by kernel_rfl) (by decide) (fun K hK => ?_)
      refine goes_ Try.func23 (by kernel_rfl) rfl #[.agg #[.int .i64 t801, .int .i64 t802, .int .i64 t803]] (by rfl) rfl rfl (by (try simp only [List.map_toArray, List.map_cons, List.map_nil]); first | done | rfl) ?_
      with_reducible refine (stipendref03_Number.calls k1 t801 t802 t803 t817 _ A20.out).mono ?_
      rintro e w36 ⟨rfl, hb⟩
      refine ⟨_, rfl, ?_⟩
      have n0_ := a0_ (bB_ (g := gb774) (o := .cells #[.int .i64 a1_0, .int .i64 a1_1, .int .i64 a1_2] 23 (0, 0)) (by (with_reducible repeat first | apply bN_ | apply bD_ | apply bA_); exact BK774.out) hb)
      have n1_ := a0_ (IsS62.below (by repeat (first | (with_reducible first | exact HI785.out | apply sA_ | apply sN_ | apply sD_ | refine sF_ ?_ NB785_774.out _ | refine sF_ ?_ NB785_814.out _ | refine sF_ ?_ NB785_815.out _) | exact HI785.out)) hb)
      have n2_ := a0_ (bB_ (g := gb814) (o := .cells #[.int .i64 t798, .int .i64 t799, .int .i64 t800] 23 (0, 0)) (by (with_reducible repeat first | apply bN_ | apply bD_ | apply bA_); exact BK814.out) hb)
      have n3_ := a0_ (bB_ (g := gb815) (o := .cells #[.int .i64 t801, .int .i64 t802, .int .i64 t803] 23 (0, 0)) (by (with_reducible repeat first | apply bN_ | apply bD_ | apply bA_); exact BK815.out) hb)
      have n4_ := a0_ (below_step (by repeat (first | (with_reducible first | exact HB.out | apply lA_ | apply lN_ | apply lD_ | refine lS_ ?_ (sG_ HI785.out) | refine lS_ ?_ GE774.out | refine lS_ ?_ GE814.out | refine lS_ ?_ GE815.out) | exact HB.out)) hb)
      clear BK774
      clear HI785
      clear BK814
      clear BK815
      clear HB
      have BK774 := n0_
      have HI785 := n1_
      have BK814 := n2_
      have BK815 := n3_
      have HB := n4_
      clear n0_ n1_ n2_ n3_ n4_
      (try clear hb)
      (try clear hb2)
      (try clear hk)
      (try clear hi)
      refine hK.out _ _ ⟨(bC_ BK814.out 0).trans rfl, (bC_ BK814.out 1).trans rfl, (bC_ BK814.out 2).trans rfl, (bC_ BK815.out 0).trans rfl, (bC_ BK815.out 1).trans rfl, (bC_ BK815.out 2).trans rfl⟩ (fun hHeld => ?_)
      clear hK K
      refine norm_ (a' := ?_) ?_ ?_
      rotate_left
      ·show Act.put _ (some 55) _ = _
       simp only [Act.put, zA_, zB_, zC_, i64_w, i32_w]
       rfl
      refine pure_ (i := 4) (N := some 14) (v := ?_) (a' := ?_) #[true, true, true, true, true, false] rfl rfl (by kernel_rfl) (fun _ _ _ h => h) (Or.inl ⟨by rfl, ?_⟩) ?_ ?_
      rotate_left
      ·intro w'
       go_simp
       with_reducible rfl
      rotate_left
      ·simp only [Act.put, zA_, zB_, zC_, i64_w, i32_w]
       rfl
      refine pure_ (i := 5) (N := some 15) (v := ?_) (a' := ?_) #[true, true, true, true, true, true] rfl rfl (by kernel_rfl) (fun _ _ _ h => h) (Or.inl ⟨by rfl, ?_⟩) ?_ ?_
      rotate_left
      ·intro w'
       go_simp
       with_reducible rfl
      rotate_left
      ·simp only [Act.put, zA_, zB_, zC_, i64_w, i32_w]
       rfl
      refine done_ (by kernel_rfl) ?_
      go_upto_region 12 with (fail)
      go_cut [73] (fun v73 wc => ∃ (kq : Nat) (x73_20 : Bool), v73 = .bool x73_20 ∧ Aside0 (stipendlaw04_PeriodCovers.j1 kq a2 x10_1 t817 x73_20 a1_0 a1_1 a1_2 t805 t806 t807 t808 t809 t810 t811 t812 t813 t798 t799 t800 t801 t802 t803 = some r) ∧ Aside0 (kq ≤ k1) ∧ Aside0 (wc.heap[gb774]? = some (.cells #[.int .i64 a1_0, .int .i64 a1_1, .int .i64 a1_2] 23 (0, 0))) ∧ Aside0 (wc.heap[gb814]? = some (.cells #[.int .i64 t798, .int .i64 t799, .int .i64 t800] 23 (0, 0))) ∧ Aside0 (wc.heap[gb815]? = some (.cells #[.int .i64 t801, .int .i64 t802, .int .i64 t803] 23 (0, 0))) ∧ Aside0 (IsS62 w wc g785 t805 t806 t807 t808 t809 t810 t811 t812 t813) ∧ Aside0 (Below w.heap.size w wc))
      case first =>
       have H := HC21.out
       clear HC21
       by_cases c37 : t804 = 0
       ·rw [if_pos c37] at H
        have c37b0 : (t804 == 0) = true := beq_iff_eq.mpr c37
        have c37b1 : (t804 != 0) = false := bne_eq_false_iff_eq.mpr c37
        clear c37
        (first | rw [c37b0] | (simp only [i64_w, i32_w]; rw [c37b0]) | skip)
        by_cases c38 : t816 = x9_1
        ·rw [if_pos c38] at H
         have c38b0 : (t816 == x9_1) = true := beq_iff_eq.mpr c38
         have c38b1 : (t816 != x9_1) = false := bne_eq_false_iff_eq.mpr c38
         clear c38
         by_cases c39 : t817 < t816
         ·rw [if_pos c39] at H
          have c39b0 : decide (t817 < t816) = true := decide_eq_true c39
          clear c39
          have H' := a0_ H
          clear H
          go_wp2
          go_meet
          case rel => exact ⟨_, (true), (by first | rfl | (simp; done) | (simp [*]; done)), H', ⟨by have := HK1.out; first | omega | exact Nat.le_refl _⟩, ⟨by (with_reducible repeat first | apply bN_ | apply bD_ | apply bA_); exact BK774.out⟩, ⟨by (with_reducible repeat first | apply bN_ | apply bD_ | apply bA_); exact BK814.out⟩, ⟨by (with_reducible repeat first | apply bN_ | apply bD_ | apply bA_); exact BK815.out⟩, ⟨by repeat (first | (with_reducible first | exact HI785.out | apply sA_ | apply sN_ | apply sD_ | refine sF_ ?_ NB785_774.out _ | refine sF_ ?_ NB785_814.out _ | refine sF_ ?_ NB785_815.out _) | exact HI785.out)⟩, ⟨by repeat (first | (with_reducible first | exact HB.out | apply lA_ | apply lN_ | apply lD_ | refine lS_ ?_ (sG_ HI785.out) | refine lS_ ?_ GE774.out | refine lS_ ?_ GE814.out | refine lS_ ?_ GE815.out) | exact HB.out)⟩⟩
         ·rw [if_neg c39] at H
          have c39b0 : decide (t817 < t816) = false := decide_eq_false c39
          clear c39
          have H' := a0_ H
          clear H
          go_wp2
          go_meet
          case rel => exact ⟨_, (decide (t817 > (wrap64 (t816 + 30)))), (by first | rfl | (simp; done) | (simp [*]; done)), H', ⟨by have := HK1.out; first | omega | exact Nat.le_refl _⟩, ⟨by (with_reducible repeat first | apply bN_ | apply bD_ | apply bA_); exact BK774.out⟩, ⟨by (with_reducible repeat first | apply bN_ | apply bD_ | apply bA_); exact BK814.out⟩, ⟨by (with_reducible repeat first | apply bN_ | apply bD_ | apply bA_); exact BK815.out⟩, ⟨by repeat (first | (with_reducible first | exact HI785.out | apply sA_ | apply sN_ | apply sD_ | refine sF_ ?_ NB785_774.out _ | refine sF_ ?_ NB785_814.out _ | refine sF_ ?_ NB785_815.out _) | exact HI785.out)⟩, ⟨by repeat (first | (with_reducible first | exact HB.out | apply lA_ | apply lN_ | apply lD_ | refine lS_ ?_ (sG_ HI785.out) | refine lS_ ?_ GE774.out | refine lS_ ?_ GE814.out | refine lS_ ?_ GE815.out) | exact HB.out)⟩⟩
        ·rw [if_neg c38] at H
         have c38b0 : (t816 == x9_1) = false := beq_eq_false_iff_ne.mpr c38
         have c38b1 : (t816 != x9_1) = true := bne_iff_ne.mpr c38
         have H' := a0_ H
         clear H
         go_wp2
         go_meet
         case rel => exact ⟨_, (true), (by first | rfl | (simp; done) | (simp [*]; done)), H', ⟨by have := HK1.out; first | omega | exact Nat.le_refl _⟩, ⟨by (with_reducible repeat first | apply bN_ | apply bD_ | apply bA_); exact BK774.out⟩, ⟨by (with_reducible repeat first | apply bN_ | apply bD_ | apply bA_); exact BK814.out⟩, ⟨by (with_reducible repeat first | apply bN_ | apply bD_ | apply bA_); exact BK815.out⟩, ⟨by repeat (first | (with_reducible first | exact HI785.out | apply sA_ | apply sN_ | apply sD_ | refine sF_ ?_ NB785_774.out _ | refine sF_ ?_ NB785_814.out _ | refine sF_ ?_ NB785_815.out _) | exact HI785.out)⟩, ⟨by repeat (first | (with_reducible first | exact HB.out | apply lA_ | apply lN_ | apply lD_ | refine lS_ ?_ (sG_ HI785.out) | refine lS_ ?_ GE774.out | refine lS_ ?_ GE814.out | refine lS_ ?_ GE815.out) | exact HB.out)⟩⟩
       ·rw [if_neg c37] at H
        have c37b0 : (t804 == 0) = false := beq_eq_false_iff_ne.mpr c37
        have c37b1 : (t804 != 0) = true := bne_iff_ne.mpr c37
        (first | rw [c37b0] | (simp only [i64_w, i32_w]; rw [c37b0]) | skip)
        have H' := a0_ H
        clear H
        go_wp2
        go_meet
        case rel => exact ⟨_, (true), (by first | rfl | (simp; done) | (simp [*]; done)), H', ⟨by have := HK1.out; first | omega | exact Nat.le_refl _⟩, ⟨by (with_reducible repeat first | apply bN_ | apply bD_ | apply bA_); exact BK774.out⟩, ⟨by (with_reducible repeat first | apply bN_ | apply bD_ | apply bA_); exact BK814.out⟩, ⟨by (with_reducible repeat first | apply bN_ | apply bD_ | apply bA_); exact BK815.out⟩, ⟨by repeat (first | (with_reducible first | exact HI785.out | apply sA_ | apply sN_ | apply sD_ | refine sF_ ?_ NB785_774.out _ | refine sF_ ?_ NB785_814.out _ | refine sF_ ?_ NB785_815.out _) | exact HI785.out)⟩, ⟨by repeat (first | (with_reducible first | exact HB.out | apply lA_ | apply lN_ | apply lD_ | refine lS_ ?_ (sG_ HI785.out) | refine lS_ ?_ GE774.out | refine lS_ ?_ GE814.out | refine lS_ ?_ GE815.out) | exact HB.out)⟩⟩
      case rest =>
       clear HC21
       try clear c5
       try clear c6
       try clear c6b0
       try clear c17
       try clear c17b0
       try clear c37
       try clear c37b0
       try clear c37b1
       try clear c38
       try clear c38b0
       try clear c38b1
       try clear c39
       try clear c39b0
       try clear hcz11_0
       try clear hcz11_1
       try clear hcz11_2
       try clear hcz14_0
       try clear hcz14_1
       try clear hcz14_2
       try clear hcz29_0
       try clear hcz29_1
       try clear hcz29_2
       try clear hcz32_0
       try clear hcz32_1
       try clear hcz32_2
       try clear hfz11_0
       try clear hfz11_1
       try clear hfz11_2
       try clear hfz14_0
       try clear hfz14_1
       try clear hfz14_2
       try clear hfz29_0
       try clear hfz29_1
       try clear hfz29_2
       try clear hfz32_0
       try clear hfz32_1
       try clear hfz32_2
       obtain ⟨kq, x73_20, rfl, HA, HJ20, BK774, BK814, BK815, HI785, HB⟩ := hcut
       cases kq with
       | zero => exact absurd HA.out (by simp [stipendlaw04_PeriodCovers.j1])
       | succ kj20 =>
        have H := HA.out
        clear HA
        simp only [stipendlaw04_PeriodCovers.j1] at H
        by_cases c40 : x73_20 = true
        ·subst c40
         have H1 : (none) = some r := by rw [if_pos rfl] at H; exact H
         clear H
         have H := H1
         clear H1
         exact absurd H (by simp)
        ·replace c40 := Bool.eq_false_iff.mpr c40
         subst c40
         have H1 : ((period_Year_Index.f kj20 t805 t806 t807 t808 t809 t810 t811 t812 t813 t798 t799 t800).bind fun bt818 => ((period_Year_Index.f kj20 bt818.2.2.1 bt818.2.2.2.1 bt818.2.2.2.2.1 bt818.2.2.2.2.2.1 bt818.2.2.2.2.2.2.1 bt818.2.2.2.2.2.2.2.1 bt818.2.2.2.2.2.2.2.2.1 bt818.2.2.2.2.2.2.2.2.2.1 bt818.2.2.2.2.2.2.2.2.2.2 t801 t802 t803).bind fun bt829 => (if bt818.2.1 = 0 then (if bt829.2.1 = 0 then (if bt818.1 = x10_1 then (if bt829.1 = x10_1 then (stipendlaw04_PeriodCovers.l0 kj20 a2 (wrap64 (t817 + 1)) (wrap64 (x10_1 + 1)) a1_0 a1_1 a1_2 bt829.2.2.1 bt829.2.2.2.1 bt829.2.2.2.2.1 bt829.2.2.2.2.2.1 bt829.2.2.2.2.2.2.1 bt829.2.2.2.2.2.2.2.1 bt829.2.2.2.2.2.2.2.2.1 bt829.2.2.2.2.2.2.2.2.2.1 bt829.2.2.2.2.2.2.2.2.2.2) else (none)) else (none)) else (none)) else (none)))) = some r := by rw [if_neg (show ¬ (false = true) by decide)] at H; exact H
         clear H
         have H := H1
         clear H1
         replace H := oB_ H
         obtain ⟨⟨t818, t819, t820, t821, t822, t823, t824, t825, t826, t827, t828⟩, A410, H⟩ := H
         replace H : ((period_Year_Index.f kj20 t820 t821 t822 t823 t824 t825 t826 t827 t828 t801 t802 t803).bind fun bt829 => (if t819 = 0 then (if bt829.2.1 = 0 then (if t818 = x10_1 then (if bt829.1 = x10_1 then (stipendlaw04_PeriodCovers.l0 kj20 a2 (wrap64 (t817 + 1)) (wrap64 (x10_1 + 1)) a1_0 a1_1 a1_2 bt829.2.2.1 bt829.2.2.2.1 bt829.2.2.2.2.1 bt829.2.2.2.2.2.1 bt829.2.2.2.2.2.2.1 bt829.2.2.2.2.2.2.2.1 bt829.2.2.2.2.2.2.2.2.1 bt829.2.2.2.2.2.2.2.2.2.1 bt829.2.2.2.2.2.2.2.2.2.2) else (none)) else (none)) else (none)) else (none))) = some r := H
         have A41 := a0_ A410
         clear A410
         replace H := oB_ H
         obtain ⟨⟨t829, t830, t831, t832, t833, t834, t835, t836, t837, t838, t839⟩, A420, H⟩ := H
         replace H : (if t819 = 0 then (if t830 = 0 then (if t818 = x10_1 then (if t829 = x10_1 then (stipendlaw04_PeriodCovers.l0 kj20 a2 (wrap64 (t817 + 1)) (wrap64 (x10_1 + 1)) a1_0 a1_1 a1_2 t831 t832 t833 t834 t835 t836 t837 t838 t839) else (none)) else (none)) else (none)) else (none)) = some r := H
         have A42 := a0_ A420
         clear A420
         by_cases c43 : t819 = 0
         ·rw [if_pos c43] at H
          have c43b0 : (t819 == 0) = true := beq_iff_eq.mpr c43
          have c43b1 : (t819 != 0) = false := bne_eq_false_iff_eq.mpr c43
          clear c43
          by_cases c44 : t830 = 0
          ·rw [if_pos c44] at H
           have c44b0 : (t830 == 0) = true := beq_iff_eq.mpr c44
           have c44b1 : (t830 != 0) = false := bne_eq_false_iff_eq.mpr c44
           clear c44
           by_cases c45 : t818 = x10_1
           ·rw [if_pos c45] at H
            have c45b0 : (t818 == x10_1) = true := beq_iff_eq.mpr c45
            have c45b1 : (t818 != x10_1) = false := bne_eq_false_iff_eq.mpr c45
            clear c45
            by_cases c46 : t829 = x10_1
            ·rw [if_pos c46] at H
             have c46b0 : (t829 == x10_1) = true := beq_iff_eq.mpr c46
             have c46b1 : (t829 != x10_1) = false := bne_eq_false_iff_eq.mpr c46
             clear c46
             have H' := a0_ H
             clear H
             have hnb47 := NB814_774.out
             have hnc47 := NB774_814.out
             have hnb48 := NB814_815.out
             have hnc48 := NB815_814.out
             have hnb49 := NB814_785.out
             have hnc49 := NB785_814.out
             have hcz50_0 : wc.cell? ⟨gb814, 0, none⟩ = some (.int .i64 t798) := (bC_ BK814.out 0).trans rfl
             have hcz50_1 : wc.cell? ⟨gb814, 1, none⟩ = some (.int .i64 t799) := (bC_ BK814.out 1).trans rfl
             have hcz50_2 : wc.cell? ⟨gb814, 2, none⟩ = some (.int .i64 t800) := (bC_ BK814.out 2).trans rfl
             have hfz50_0 := bF_ BK814.out 0
             have hfz50_1 := bF_ BK814.out 1
             have hfz50_2 := bF_ BK814.out 2
             go_wp2_with (first | ((with_reducible refine gate_callee (f := 14) rfl ?_); refine goesL_ (some 77) rfl rfl Try.func14 (by kernel_rfl) rfl #[.pointer (some ⟨g785, 0, none⟩), .agg #[.int .i64 t798, .int .i64 t799, .int .i64 t800]] rfl (by (try simp only [List.map_toArray, List.map_cons, List.map_nil]); first | done | rfl) ?_; (with_reducible refine (period_Year_Index.calls kj20 g785 t805 t806 t807 t808 t809 t810 t811 t812 t813 t798 t799 t800 t818 t819 t820 t821 t822 t823 t824 t825 t826 t827 t828 w _ ?side1 ?side2 A41.out).mono ?_); (case side1 => repeat (first | (with_reducible first | exact HI785.out | apply sA_ | apply sN_ | apply sD_ | refine sF_ ?_ NB785_774.out _ | refine sF_ ?_ NB785_814.out _ | refine sF_ ?_ NB785_815.out _) | exact HI785.out)); (case side2 => repeat (first | (with_reducible first | exact HB.out | apply lA_ | apply lN_ | apply lD_ | refine lS_ ?_ (sG_ HI785.out) | refine lS_ ?_ GE774.out | refine lS_ ?_ GE814.out | refine lS_ ?_ GE815.out) | exact HB.out)); rintro e w51 ⟨rfl, hi, hb, hk⟩; refine ⟨_, rfl, ?_⟩; have n0_ := a0_ (KeepBut.blk hk (g' := gb774) (o := .cells #[.int .i64 a1_0, .int .i64 a1_1, .int .i64 a1_2] 23 (0, 0)) (by (with_reducible repeat first | apply bN_ | apply bD_ | apply bA_); exact BK774.out) NB774_785.out (by simp)); have n1_ := a0_ (KeepBut.blk hk (g' := gb814) (o := .cells #[.int .i64 t798, .int .i64 t799, .int .i64 t800] 23 (0, 0)) (by (with_reducible repeat first | apply bN_ | apply bD_ | apply bA_); exact BK814.out) NB814_785.out (by simp)); have n2_ := a0_ (KeepBut.blk hk (g' := gb815) (o := .cells #[.int .i64 t801, .int .i64 t802, .int .i64 t803] 23 (0, 0)) (by (with_reducible repeat first | apply bN_ | apply bD_ | apply bA_); exact BK815.out) NB815_785.out (by simp)); have n3_ := a0_ (hb); have n4_ := a0_ (hi); clear BK774; clear BK814; clear BK815; clear HB; clear HI785; have BK774 := n0_; have BK814 := n1_; have BK815 := n2_; have HB := n3_; have HI785 := n4_; clear n0_ n1_ n2_ n3_ n4_; (try clear hb); (try clear hb2); (try clear hk); (try clear hi); have hnb52 := NB815_774.out; have hnc52 := NB774_815.out; have hnb53 := NB815_785.out; have hnc53 := NB785_815.out; have hcz54_0 : w51.cell? ⟨gb815, 0, none⟩ = some (.int .i64 t801) := (bC_ BK815.out 0).trans rfl; have hcz54_1 : w51.cell? ⟨gb815, 1, none⟩ = some (.int .i64 t802) := (bC_ BK815.out 1).trans rfl; have hcz54_2 : w51.cell? ⟨gb815, 2, none⟩ = some (.int .i64 t803) := (bC_ BK815.out 2).trans rfl; have hfz54_0 := bF_ BK815.out 0; have hfz54_1 := bF_ BK815.out 1; have hfz54_2 := bF_ BK815.out 2) | ((with_reducible refine gate_callee (f := 14) rfl ?_); refine goesL_ (some 83) rfl rfl Try.func14 (by kernel_rfl) rfl #[.pointer (some ⟨g785, 0, none⟩), .agg #[.int .i64 t801, .int .i64 t802, .int .i64 t803]] rfl (by (try simp only [List.map_toArray, List.map_cons, List.map_nil]); first | done | rfl) ?_; (with_reducible refine (period_Year_Index.calls kj20 g785 t820 t821 t822 t823 t824 t825 t826 t827 t828 t801 t802 t803 t829 t830 t831 t832 t833 t834 t835 t836 t837 t838 t839 w _ ?side1 ?side2 A42.out).mono ?_); (case side1 => repeat (first | (with_reducible first | exact HI785.out | apply sA_ | apply sN_ | apply sD_ | refine sF_ ?_ NB785_774.out _ | refine sF_ ?_ NB785_814.out _ | refine sF_ ?_ NB785_815.out _) | exact HI785.out)); (case side2 => repeat (first | (with_reducible first | exact HB.out | apply lA_ | apply lN_ | apply lD_ | refine lS_ ?_ (sG_ HI785.out) | refine lS_ ?_ GE774.out | refine lS_ ?_ GE814.out | refine lS_ ?_ GE815.out) | exact HB.out)); rintro e w55 ⟨rfl, hi, hb, hk⟩; refine ⟨_, rfl, ?_⟩; have n0_ := a0_ (KeepBut.blk hk (g' := gb774) (o := .cells #[.int .i64 a1_0, .int .i64 a1_1, .int .i64 a1_2] 23 (0, 0)) (by (with_reducible repeat first | apply bN_ | apply bD_ | apply bA_); exact BK774.out) NB774_785.out (by simp)); have n1_ := a0_ (KeepBut.blk hk (g' := gb814) (o := .cells #[.int .i64 t798, .int .i64 t799, .int .i64 t800] 23 (0, 0)) (by (with_reducible repeat first | apply bN_ | apply bD_ | apply bA_); exact BK814.out) NB814_785.out (by simp)); have n2_ := a0_ (KeepBut.blk hk (g' := gb815) (o := .cells #[.int .i64 t801, .int .i64 t802, .int .i64 t803] 23 (0, 0)) (by (with_reducible repeat first | apply bN_ | apply bD_ | apply bA_); exact BK815.out) NB815_785.out (by simp)); have n3_ := a0_ (hb); have n4_ := a0_ (hi); clear BK774; clear BK814; clear BK815; clear HB; clear HI785; have BK774 := n0_; have BK814 := n1_; have BK815 := n2_; have HB := n3_; have HI785 := n4_; clear n0_ n1_ n2_ n3_ n4_; (try clear hb); (try clear hb2); (try clear hk); (try clear hi)))
             go_roundg kj20
             case measure => have := HK1.out; have := HJ20.out; omega
             case rel => exact ⟨(wrap64 (t817 + 1)), (wrap64 (x10_1 + 1)), (t831), (t832), (t833), (t834), (t835), (t836), (t837), (t838), (t839), (by first | rfl | (simp; done) | (simp [*]; done)), (by first | rfl | (simp; done) | (simp [*]; done)), H', ⟨by have := HK1.out; have := HJ20.out; omega⟩, ⟨by (with_reducible repeat first | apply bN_ | apply bD_ | apply bA_); exact BK774.out⟩, ⟨by repeat (first | (with_reducible first | exact HI785.out | apply sA_ | apply sN_ | apply sD_ | refine sF_ ?_ NB785_774.out _ | refine sF_ ?_ NB785_814.out _ | refine sF_ ?_ NB785_815.out _) | exact HI785.out)⟩, ⟨by repeat (first | (with_reducible first | exact HB.out | apply lA_ | apply lN_ | apply lD_ | refine lS_ ?_ (sG_ HI785.out) | refine lS_ ?_ GE774.out | refine lS_ ?_ GE814.out | refine lS_ ?_ GE815.out) | exact HB.out)⟩⟩
            ·rw [if_neg c46] at H
             exact absurd H (by simp)
           ·rw [if_neg c45] at H
            exact absurd H (by simp)
          ·rw [if_neg c44] at H
           exact absurd H (by simp)
         ·rw [if_neg c43] at H
          exact absurd H (by simp)
     ·rw [if_neg c17] at H
      have c17b0 : decide (x10_1 ≤ t788) = false := decide_eq_false c17
      clear c17
      replace H := oB_ H
      obtain ⟨⟨t840, t841, t842, t843, t844, t845, t846, t847, t848, t849, t850, t851⟩, A560, H⟩ := H
      replace H : ((stipendref03_Number.f k1 t840 t841 t842).bind fun t852 => (if x9_1 = (wrap64 (t852 + 1)) then (if a2 < 0 then (stipendlaw04_PeriodCovers.j2 k1 a2 x9_1 true a1_0 a1_1 a1_2 t843 t844 t845 t846 t847 t848 t849 t850 t851) else (stipendlaw04_PeriodCovers.j2 k1 a2 x9_1 (decide (a2 > 400)) a1_0 a1_1 a1_2 t843 t844 t845 t846 t847 t848 t849 t850 t851)) else (none))) = some r := H
      have A56 := a0_ A560
      clear A560
      replace H := oB_ H
      obtain ⟨t852, A570, H⟩ := H
      replace H : (if x9_1 = (wrap64 (t852 + 1)) then (if a2 < 0 then (stipendlaw04_PeriodCovers.j2 k1 a2 x9_1 true a1_0 a1_1 a1_2 t843 t844 t845 t846 t847 t848 t849 t850 t851) else (stipendlaw04_PeriodCovers.j2 k1 a2 x9_1 (decide (a2 > 400)) a1_0 a1_1 a1_2 t843 t844 t845 t846 t847 t848 t849 t850 t851)) else (none)) = some r := H
      have A57 := a0_ A570
      clear A570
      by_cases c58 : x9_1 = (wrap64 (t852 + 1))
      ·rw [if_pos c58] at H
       have c58b0 : (x9_1 == (wrap64 (t852 + 1))) = true := beq_iff_eq.mpr c58
       have c58b1 : (x9_1 != (wrap64 (t852 + 1))) = false := bne_eq_false_iff_eq.mpr c58
       clear c58
       have HC59 := a0_ H
       clear H
       go_upto_region 21 with (first | ((with_reducible refine gate_callee (f := 24) rfl ?_); refine goesL_ (some 41) rfl rfl Try.func24 (by kernel_rfl) rfl #[.pointer (some ⟨g785, 0, none⟩)] rfl (by (try simp only [List.map_toArray, List.map_cons, List.map_nil]); first | done | rfl) ?_; (with_reducible refine (period_Year_Count.calls g785 x786000_1 x786001_1 x786002_1 x786003_1 x786004_1 x786005_1 x786006_1 x786007_1 x786008_1 t788 t789 t790 t791 t792 t793 t794 t795 t796 t797 w _ ?side1 ?side2 A16.out).mono ?_); (case side1 => repeat (first | (with_reducible first | exact HI785.out | apply sA_ | apply sN_ | apply sD_ | refine sF_ ?_ NB785_774.out _) | exact HI785.out)); (case side2 => repeat (first | (with_reducible first | exact HB.out | apply lA_ | apply lN_ | apply lD_ | refine lS_ ?_ (sG_ HI785.out) | refine lS_ ?_ GE774.out) | exact HB.out)); rintro e w60 ⟨rfl, hi, hb, hk⟩; refine ⟨_, rfl, ?_⟩; have n0_ := a0_ (KeepBut.blk hk (g' := gb774) (o := .cells #[.int .i64 a1_0, .int .i64 a1_1, .int .i64 a1_2] 23 (0, 0)) (by (with_reducible repeat first | apply bN_ | apply bD_ | apply bA_); exact BK774.out) NB774_785.out (by simp)); have n1_ := a0_ (hb); have n2_ := a0_ (hi); clear BK774; clear HB; clear HI785; have BK774 := n0_; have HB := n1_; have HI785 := n2_; clear n0_ n1_ n2_; (try clear hb); (try clear hb2); (try clear hk); (try clear hi)) | ((with_reducible refine gate_callee (f := 18) rfl ?_); refine goesL_ (some 106) rfl rfl Try.func18 (by kernel_rfl) rfl #[.pointer (some ⟨g785, 0, none⟩)] rfl (by (try simp only [List.map_toArray, List.map_cons, List.map_nil]); first | done | rfl) ?_; (with_reducible refine (period_Year_End.calls g785 t789 t790 t791 t792 t793 t794 t795 t796 t797 t840 t841 t842 t843 t844 t845 t846 t847 t848 t849 t850 t851 w _ ?side1 ?side2 A56.out).mono ?_); (case side1 => repeat (first | (with_reducible first | exact HI785.out | apply sA_ | apply sN_ | apply sD_ | refine sF_ ?_ NB785_774.out _) | exact HI785.out)); (case side2 => repeat (first | (with_reducible first | exact HB.out | apply lA_ | apply lN_ | apply lD_ | refine lS_ ?_ (sG_ HI785.out) | refine lS_ ?_ GE774.out) | exact HB.out)); rintro e w61 ⟨rfl, hi, hb, hk⟩; refine ⟨_, rfl, ?_⟩; have n0_ := a0_ (KeepBut.blk hk (g' := gb774) (o := .cells #[.int .i64 a1_0, .int .i64 a1_1, .int .i64 a1_2] 23 (0, 0)) (by (with_reducible repeat first | apply bN_ | apply bD_ | apply bA_); exact BK774.out) NB774_785.out (by simp)); have n1_ := a0_ (hb); have n2_ := a0_ (hi); clear BK774; clear HB; clear HI785; have BK774 := n0_; have HB := n1_; have HI785 := n2_; clear n0_ n1_ n2_; (try clear hb); (try clear hb2); (try clear hk); (try clear hi)) | ((with_reducible refine gate_callee (f := 23) rfl ?_); refine goesL_ (some 107) rfl rfl Try.func23 (by kernel_rfl) rfl #[.agg #[.int .i64 t840, .int .i64 t841, .int .i64 t842]] rfl (by (try simp only [List.map_toArray, List.map_cons, List.map_nil]); first | done | rfl) ?_; (with_reducible refine (stipendref03_Number.calls k1 t840 t841 t842 t852 _ A57.out).mono ?_); rintro e w62 ⟨rfl, hb⟩; refine ⟨_, rfl, ?_⟩; have n0_ := a0_ (bB_ (g := gb774) (o := .cells #[.int .i64 a1_0, .int .i64 a1_1, .int .i64 a1_2] 23 (0, 0)) (by (with_reducible repeat first | apply bN_ | apply bD_ | apply bA_); exact BK774.out) hb); have n1_ := a0_ (IsS62.below (by repeat (first | (with_reducible first | exact HI785.out | apply sA_ | apply sN_ | apply sD_ | refine sF_ ?_ NB785_774.out _) | exact HI785.out)) hb); have n2_ := a0_ (below_step (by repeat (first | (with_reducible first | exact HB.out | apply lA_ | apply lN_ | apply lD_ | refine lS_ ?_ (sG_ HI785.out) | refine lS_ ?_ GE774.out) | exact HB.out)) hb); clear BK774; clear HI785; clear HB; have BK774 := n0_; have HI785 := n1_; have HB := n2_; clear n0_ n1_ n2_; (try clear hb); (try clear hb2); (try clear hk); (try clear hi)))
       (try simp only [Act.put, zA_, zB_, zC_])
       go_cut [115] (fun v115 wc => ∃ (kq : Nat) (x115_58 : Bool), v115 = .bool x115_58 ∧ Aside0 (stipendlaw04_PeriodCovers.j2 kq a2 x9_1 x115_58 a1_0 a1_1 a1_2 t843 t844 t845 t846 t847 t848 t849 t850 t851 = some r) ∧ Aside0 (kq ≤ k1) ∧ Aside0 (wc.heap[gb774]? = some (.cells #[.int .i64 a1_0, .int .i64 a1_1, .int .i64 a1_2] 23 (0, 0))) ∧ Aside0 (IsS62 w wc g785 t843 t844 t845 t846 t847 t848 t849 t850 t851) ∧ Aside0 (Below w.heap.size w wc))
       case first =>
        have H := HC59.out
        clear HC59
        by_cases c63 : a2 < 0
        ·rw [if_pos c63] at H
         have c63b0 : decide (a2 < 0) = true := decide_eq_true c63
         clear c63
         (first | rw [c63b0] | (simp only [i64_w, i32_w]; rw [c63b0]) | skip)
         have H' := a0_ H
         clear H
         go_wp2
         go_meet
         case rel => exact ⟨_, (true), (by first | rfl | (simp; done) | (simp [*]; done)), H', ⟨by have := HK1.out; first | omega | exact Nat.le_refl _⟩, ⟨by (with_reducible repeat first | apply bN_ | apply bD_ | apply bA_); exact BK774.out⟩, ⟨by repeat (first | (with_reducible first | exact HI785.out | apply sA_ | apply sN_ | apply sD_ | refine sF_ ?_ NB785_774.out _) | exact HI785.out)⟩, ⟨by repeat (first | (with_reducible first | exact HB.out | apply lA_ | apply lN_ | apply lD_ | refine lS_ ?_ (sG_ HI785.out) | refine lS_ ?_ GE774.out) | exact HB.out)⟩⟩
        ·rw [if_neg c63] at H
         have c63b0 : decide (a2 < 0) = false := decide_eq_false c63
         clear c63
         (first | rw [c63b0] | (simp only [i64_w, i32_w]; rw [c63b0]) | skip)
         have H' := a0_ H
         clear H
         go_wp2
         go_meet
         case rel => exact ⟨_, (decide (a2 > 400)), (by first | rfl | (simp; done) | (simp [*]; done)), H', ⟨by have := HK1.out; first | omega | exact Nat.le_refl _⟩, ⟨by (with_reducible repeat first | apply bN_ | apply bD_ | apply bA_); exact BK774.out⟩, ⟨by repeat (first | (with_reducible first | exact HI785.out | apply sA_ | apply sN_ | apply sD_ | refine sF_ ?_ NB785_774.out _) | exact HI785.out)⟩, ⟨by repeat (first | (with_reducible first | exact HB.out | apply lA_ | apply lN_ | apply lD_ | refine lS_ ?_ (sG_ HI785.out) | refine lS_ ?_ GE774.out) | exact HB.out)⟩⟩
       case rest =>
        clear HC59
        try clear c5
        try clear c6
        try clear c6b0
        try clear c17
        try clear c17b0
        try clear c37
        try clear c37b0
        try clear c37b1
        try clear c38
        try clear c38b0
        try clear c38b1
        try clear c39
        try clear c39b0
        try clear c40
        try clear c43
        try clear c43b0
        try clear c43b1
        try clear c44
        try clear c44b0
        try clear c44b1
        try clear c45
        try clear c45b0
        try clear c45b1
        try clear c46
        try clear c46b0
        try clear c46b1
        try clear c58
        try clear c58b0
        try clear c58b1
        try clear c63
        try clear c63b0
        try clear hcz11_0
        try clear hcz11_1
        try clear hcz11_2
        try clear hcz14_0
        try clear hcz14_1
        try clear hcz14_2
        try clear hcz29_0
        try clear hcz29_1
        try clear hcz29_2
        try clear hcz32_0
        try clear hcz32_1
        try clear hcz32_2
        try clear hcz50_0
        try clear hcz50_1
        try clear hcz50_2
        try clear hcz54_0
        try clear hcz54_1
        try clear hcz54_2
        try clear hfz11_0
        try clear hfz11_1
        try clear hfz11_2
        try clear hfz14_0
        try clear hfz14_1
        try clear hfz14_2
        try clear hfz29_0
        try clear hfz29_1
        try clear hfz29_2
        try clear hfz32_0
        try clear hfz32_1
        try clear hfz32_2
        try clear hfz50_0
        try clear hfz50_1
        try clear hfz50_2
        try clear hfz54_0
        try clear hfz54_1
        try clear hfz54_2
        obtain ⟨kq, x115_58, rfl, HA, HJ58, BK774, HI785, HB⟩ := hcut
        cases kq with
        | zero => exact absurd HA.out (by simp [stipendlaw04_PeriodCovers.j2])
        | succ kj58 =>
         have H := HA.out
         clear HA
         simp only [stipendlaw04_PeriodCovers.j2] at H
         by_cases c64 : x115_58 = true
         ·subst c64
          have H1 : (some true) = some r := by rw [if_pos rfl] at H; exact H
          clear H
          have H := H1
          clear H1
          obtain rfl := Option.some.inj H
          go_wp2
          go_ret
          exact ⟨by first | rfl | (simp [errW_none, errW_some] <;> rfl) | (simp [*, errW_none, errW_some] <;> rfl), by repeat (first | (with_reducible first | exact HB.out | apply lA_ | apply lN_ | apply lD_ | refine lS_ ?_ (sG_ HI785.out) | refine lS_ ?_ GE774.out) | exact HB.out)⟩
         ·replace c64 := Bool.eq_false_iff.mpr c64
          subst c64
          have H1 : ((stipendref03_Number.f kj58 a1_0 a1_1 a1_2).bind fun t853 => ((stipendref03_Of.f kj58 (wrap64 (t853 + a2))).bind fun bt854 => (if bt854.2.2.2 = true then ((period_Year_Index.f kj58 t843 t844 t845 t846 t847 t848 t849 t850 t851 bt854.1 bt854.2.1 bt854.2.2.1).bind fun bt859 => ((stipendref03_Number.f kj58 bt854.1 bt854.2.1 bt854.2.2.1).bind fun t870 => (if t870 ≥ x9_1 then (if bt859.2.1 = 1 then (some (bt859.1 == 0)) else (none)) else ((period_Year_Span.f kj58 bt859.2.2.1 bt859.2.2.2.1 bt859.2.2.2.2.1 bt859.2.2.2.2.2.1 bt859.2.2.2.2.2.2.1 bt859.2.2.2.2.2.2.2.1 bt859.2.2.2.2.2.2.2.2.1 bt859.2.2.2.2.2.2.2.2.2.1 bt859.2.2.2.2.2.2.2.2.2.2 bt859.1).bind fun bt871 => (if bt859.2.1 = 0 then ((date_Compare.f bt871.1 bt871.2.1 bt871.2.2.1 bt854.1 bt854.2.1 bt854.2.2.1).bind fun t889 => (if t889 ≤ 0 then ((date_Compare.f bt854.1 bt854.2.1 bt854.2.2.1 bt871.2.2.2.1 bt871.2.2.2.2.1 bt871.2.2.2.2.2.1).bind fun t890 => (some (decide (t890 ≤ 0)))) else (none))) else (none)))))) else (some true)))) = some r := by rw [if_neg (show ¬ (false = true) by decide)] at H; exact H
          clear H
          have H := H1
          clear H1
          replace H := oB_ H
          obtain ⟨t853, A650, H⟩ := H
          replace H : ((stipendref03_Of.f kj58 (wrap64 (t853 + a2))).bind fun bt854 => (if bt854.2.2.2 = true then ((period_Year_Index.f kj58 t843 t844 t845 t846 t847 t848 t849 t850 t851 bt854.1 bt854.2.1 bt854.2.2.1).bind fun bt859 => ((stipendref03_Number.f kj58 bt854.1 bt854.2.1 bt854.2.2.1).bind fun t870 => (if t870 ≥ x9_1 then (if bt859.2.1 = 1 then (some (bt859.1 == 0)) else (none)) else ((period_Year_Span.f kj58 bt859.2.2.1 bt859.2.2.2.1 bt859.2.2.2.2.1 bt859.2.2.2.2.2.1 bt859.2.2.2.2.2.2.1 bt859.2.2.2.2.2.2.2.1 bt859.2.2.2.2.2.2.2.2.1 bt859.2.2.2.2.2.2.2.2.2.1 bt859.2.2.2.2.2.2.2.2.2.2 bt859.1).bind fun bt871 => (if bt859.2.1 = 0 then ((date_Compare.f bt871.1 bt871.2.1 bt871.2.2.1 bt854.1 bt854.2.1 bt854.2.2.1).bind fun t889 => (if t889 ≤ 0 then ((date_Compare.f bt854.1 bt854.2.1 bt854.2.2.1 bt871.2.2.2.1 bt871.2.2.2.2.1 bt871.2.2.2.2.2.1).bind fun t890 => (some (decide (t890 ≤ 0)))) else (none))) else (none)))))) else (some true))) = some r := H
          have A65 := a0_ A650
          clear A650
          replace H := oB_ H
          obtain ⟨⟨t854, t855, t856, t857⟩, A660, H⟩ := H
          replace H : (if t857 = true then ((period_Year_Index.f kj58 t843 t844 t845 t846 t847 t848 t849 t850 t851 t854 t855 t856).bind fun bt859 => ((stipendref03_Number.f kj58 t854 t855 t856).bind fun t870 => (if t870 ≥ x9_1 then (if bt859.2.1 = 1 then (some (bt859.1 == 0)) else (none)) else ((period_Year_Span.f kj58 bt859.2.2.1 bt859.2.2.2.1 bt859.2.2.2.2.1 bt859.2.2.2.2.2.1 bt859.2.2.2.2.2.2.1 bt859.2.2.2.2.2.2.2.1 bt859.2.2.2.2.2.2.2.2.1 bt859.2.2.2.2.2.2.2.2.2.1 bt859.2.2.2.2.2.2.2.2.2.2 bt859.1).bind fun bt871 => (if bt859.2.1 = 0 then ((date_Compare.f bt871.1 bt871.2.1 bt871.2.2.1 t854 t855 t856).bind fun t889 => (if t889 ≤ 0 then ((date_Compare.f t854 t855 t856 bt871.2.2.2.1 bt871.2.2.2.2.1 bt871.2.2.2.2.2.1).bind fun t890 => (some (decide (t890 ≤ 0)))) else (none))) else (none)))))) else (some true)) = some r := H
          have A66 := a0_ A660
          clear A660
          by_cases c67 : t857 = true
          ·subst c67
           have H1 : ((period_Year_Index.f kj58 t843 t844 t845 t846 t847 t848 t849 t850 t851 t854 t855 t856).bind fun bt859 => ((stipendref03_Number.f kj58 t854 t855 t856).bind fun t870 => (if t870 ≥ x9_1 then (if bt859.2.1 = 1 then (some (bt859.1 == 0)) else (none)) else ((period_Year_Span.f kj58 bt859.2.2.1 bt859.2.2.2.1 bt859.2.2.2.2.1 bt859.2.2.2.2.2.1 bt859.2.2.2.2.2.2.1 bt859.2.2.2.2.2.2.2.1 bt859.2.2.2.2.2.2.2.2.1 bt859.2.2.2.2.2.2.2.2.2.1 bt859.2.2.2.2.2.2.2.2.2.2 bt859.1).bind fun bt871 => (if bt859.2.1 = 0 then ((date_Compare.f bt871.1 bt871.2.1 bt871.2.2.1 t854 t855 t856).bind fun t889 => (if t889 ≤ 0 then ((date_Compare.f t854 t855 t856 bt871.2.2.2.1 bt871.2.2.2.2.1 bt871.2.2.2.2.2.1).bind fun t890 => (some (decide (t890 ≤ 0)))) else (none))) else (none)))))) = some r := by rw [if_pos rfl] at H; exact H
           clear H
           have H := H1
           clear H1
           replace H := oB_ H
           obtain ⟨⟨t859, t860, t861, t862, t863, t864, t865, t866, t867, t868, t869⟩, A680, H⟩ := H
           replace H : ((stipendref03_Number.f kj58 t854 t855 t856).bind fun t870 => (if t870 ≥ x9_1 then (if t860 = 1 then (some (t859 == 0)) else (none)) else ((period_Year_Span.f kj58 t861 t862 t863 t864 t865 t866 t867 t868 t869 t859).bind fun bt871 => (if t860 = 0 then ((date_Compare.f bt871.1 bt871.2.1 bt871.2.2.1 t854 t855 t856).bind fun t889 => (if t889 ≤ 0 then ((date_Compare.f t854 t855 t856 bt871.2.2.2.1 bt871.2.2.2.2.1 bt871.2.2.2.2.2.1).bind fun t890 => (some (decide (t890 ≤ 0)))) else (none))) else (none))))) = some r := H
           have A68 := a0_ A680
           clear A680
           replace H := oB_ H
           obtain ⟨t870, A690, H⟩ := H
           replace H : (if t870 ≥ x9_1 then (if t860 = 1 then (some (t859 == 0)) else (none)) else ((period_Year_Span.f kj58 t861 t862 t863 t864 t865 t866 t867 t868 t869 t859).bind fun bt871 => (if t860 = 0 then ((date_Compare.f bt871.1 bt871.2.1 bt871.2.2.1 t854 t855 t856).bind fun t889 => (if t889 ≤ 0 then ((date_Compare.f t854 t855 t856 bt871.2.2.2.1 bt871.2.2.2.2.1 bt871.2.2.2.2.2.1).bind fun t890 => (some (decide (t890 ≤ 0)))) else (none))) else (none)))) = some r := H
           have A69 := a0_ A690
           clear A690
           by_cases c70 : t870 ≥ x9_1
           ·rw [if_pos c70] at H
            have c70b0 : decide (x9_1 ≤ t870) = true := decide_eq_true c70
            clear c70
            by_cases c71 : t860 = 1
            ·rw [if_pos c71] at H
             have c71b0 : (t860 == 1) = true := beq_iff_eq.mpr c71
             have c71b1 : (t860 != 1) = false := bne_eq_false_iff_eq.mpr c71
             clear c71
             obtain rfl := Option.some.inj H
             have hnb72 := NB774_785.out
             have hnc72 := NB785_774.out
             have hcz73_0 : wc.cell? ⟨gb774, 0, none⟩ = some (.int .i64 a1_0) := (bC_ BK774.out 0).trans rfl
             have hcz73_1 : wc.cell? ⟨gb774, 1, none⟩ = some (.int .i64 a1_1) := (bC_ BK774.out 1).trans rfl
             have hcz73_2 : wc.cell? ⟨gb774, 2, none⟩ = some (.int .i64 a1_2) := (bC_ BK774.out 2).trans rfl
             have hfz73_0 := bF_ BK774.out 0
             have hfz73_1 := bF_ BK774.out 1
             have hfz73_2 := bF_ BK774.out 2
             go_wp2_with (first | ((with_reducible refine gate_callee (f := 23) rfl ?_); refine goesL_ (some 118) rfl rfl Try.func23 (by kernel_rfl) rfl #[.agg #[.int .i64 a1_0, .int .i64 a1_1, .int .i64 a1_2]] rfl (by (try simp only [List.map_toArray, List.map_cons, List.map_nil]); first | done | rfl) ?_; (with_reducible refine (stipendref03_Number.calls kj58 a1_0 a1_1 a1_2 t853 _ A65.out).mono ?_); rintro e w74 ⟨rfl, hb⟩; refine ⟨_, rfl, ?_⟩; have n0_ := a0_ (bB_ (g := gb774) (o := .cells #[.int .i64 a1_0, .int .i64 a1_1, .int .i64 a1_2] 23 (0, 0)) (by (with_reducible repeat first | apply bN_ | apply bD_ | apply bA_); exact BK774.out) hb); have n1_ := a0_ (IsS62.below (by repeat (first | (with_reducible first | exact HI785.out | apply sA_ | apply sN_ | apply sD_ | refine sF_ ?_ NB785_774.out _) | exact HI785.out)) hb); have n2_ := a0_ (below_step (by repeat (first | (with_reducible first | exact HB.out | apply lA_ | apply lN_ | apply lD_ | refine lS_ ?_ (sG_ HI785.out) | refine lS_ ?_ GE774.out) | exact HB.out)) hb); clear BK774; clear HI785; clear HB; have BK774 := n0_; have HI785 := n1_; have HB := n2_; clear n0_ n1_ n2_; (try clear hb); (try clear hb2); (try clear hk); (try clear hi)) | ((with_reducible refine gate_callee (f := 27) rfl ?_); refine goesL_ (some 121) rfl rfl Try.func27 (by kernel_rfl) rfl #[.int .i64 (wrap64 (t853 + a2))] rfl (by (try simp only [List.map_toArray, List.map_cons, List.map_nil]); first | done | rfl) ?_; (with_reducible refine (stipendref03_Of.calls kj58 (wrap64 (t853 + a2)) t854 t855 t856 true _ A66.out).mono ?_); rintro e w75 ⟨rfl, hb⟩; refine ⟨_, rfl, ?_⟩; have n0_ := a0_ (bB_ (g := gb774) (o := .cells #[.int .i64 a1_0, .int .i64 a1_1, .int .i64 a1_2] 23 (0, 0)) (by (with_reducible repeat first | apply bN_ | apply bD_ | apply bA_); exact BK774.out) hb); have n1_ := a0_ (IsS62.below (by repeat (first | (with_reducible first | exact HI785.out | apply sA_ | apply sN_ | apply sD_ | refine sF_ ?_ NB785_774.out _) | exact HI785.out)) hb); have n2_ := a0_ (below_step (by repeat (first | (with_reducible first | exact HB.out | apply lA_ | apply lN_ | apply lD_ | refine lS_ ?_ (sG_ HI785.out) | refine lS_ ?_ GE774.out) | exact HB.out)) hb); clear BK774; clear HI785; clear HB; have BK774 := n0_; have HI785 := n1_; have HB := n2_; clear n0_ n1_ n2_; (try clear hb); (try clear hb2); (try clear hk); (try clear hi)) | ((with_reducible refine gate_dst (N := 20) rfl ?_); refine box_event ?hg (N := 20) ?hd (cs := #[.int .i64 0, .int .i64 0, .int .i64 0]) (t := 23) ?hr ?_; (case hd => rfl); (case hg => rfl); (case hr => first | (go_simp; done) | (go_simp; rfl)); intro gb858 hg w76 hbox hb; have n0_ := a0_ (bB_ (g := gb774) (o := .cells #[.int .i64 a1_0, .int .i64 a1_1, .int .i64 a1_2] 23 (0, 0)) (by (with_reducible repeat first | apply bN_ | apply bD_ | apply bA_); exact BK774.out) hb); have n1_ := a0_ (IsS62.below (by repeat (first | (with_reducible first | exact HI785.out | apply sA_ | apply sN_ | apply sD_ | refine sF_ ?_ NB785_774.out _) | exact HI785.out)) hb); have n2_ := a0_ (below_step (by repeat (first | (with_reducible first | exact HB.out | apply lA_ | apply lN_ | apply lD_ | refine lS_ ?_ (sG_ HI785.out) | refine lS_ ?_ GE774.out) | exact HB.out)) hb); have n3_ := a0_ (hbox); have n4_ := a0_ ((by rw [hg]; exact (below_size (by repeat (first | (with_reducible first | exact HB.out | apply lA_ | apply lN_ | apply lD_ | refine lS_ ?_ (sG_ HI785.out) | refine lS_ ?_ GE774.out) | exact HB.out))) : w.heap.size ≤ gb858)); have n5_ := a0_ ((by rw [hg]; exact (below_size (by repeat (first | (with_reducible first | exact HB.out | apply lA_ | apply lN_ | apply lD_ | refine lS_ ?_ (sG_ HI785.out) | refine lS_ ?_ GE774.out) | exact HB.out))) : w.heap.size ≤ gb858)); have n6_ := a0_ ((by rw [hg]; exact Nat.ne_of_lt (blk_lt (g := gb774) (o := .cells #[.int .i64 a1_0, .int .i64 a1_1, .int .i64 a1_2] 23 (0, 0)) (by (with_reducible repeat first | apply bN_ | apply bD_ | apply bA_); exact BK774.out)) : gb774 ≠ gb858)); have n7_ := a0_ ((by rw [hg]; exact Nat.ne_of_gt (blk_lt (g := gb774) (o := .cells #[.int .i64 a1_0, .int .i64 a1_1, .int .i64 a1_2] 23 (0, 0)) (by (with_reducible repeat first | apply bN_ | apply bD_ | apply bA_); exact BK774.out)) : gb858 ≠ gb774)); have n8_ := a0_ ((by rw [hg]; exact Nat.ne_of_lt (IsS62.lt (show IsS62 w _ g785 t843 t844 t845 t846 t847 t848 t849 t850 t851 from by repeat (first | (with_reducible first | exact HI785.out | apply sA_ | apply sN_ | apply sD_ | refine sF_ ?_ NB785_774.out _) | exact HI785.out))) : g785 ≠ gb858)); have n9_ := a0_ ((by rw [hg]; exact Nat.ne_of_gt (IsS62.lt (show IsS62 w _ g785 t843 t844 t845 t846 t847 t848 t849 t850 t851 from by repeat (first | (with_reducible first | exact HI785.out | apply sA_ | apply sN_ | apply sD_ | refine sF_ ?_ NB785_774.out _) | exact HI785.out))) : gb858 ≠ g785)); clear BK774; clear HI785; clear HB; have BK774 := n0_; have HI785 := n1_; have HB := n2_; have BK858 := n3_; have GW858 := n4_; have GE858 := n5_; have NB774_858 := n6_; have NB858_774 := n7_; have NB785_858 := n8_; have NB858_785 := n9_; clear n0_ n1_ n2_ n3_ n4_ n5_ n6_ n7_ n8_ n9_; clear hb hbox hg; have hnb77 := NB858_774.out; have hnc77 := NB774_858.out; have hnb78 := NB858_785.out; have hnc78 := NB785_858.out; have hcz79_0 : w76.cell? ⟨gb858, 0, none⟩ = some (.int .i64 0) := (bC_ BK858.out 0).trans rfl; have hcz79_1 : w76.cell? ⟨gb858, 1, none⟩ = some (.int .i64 0) := (bC_ BK858.out 1).trans rfl; have hcz79_2 : w76.cell? ⟨gb858, 2, none⟩ = some (.int .i64 0) := (bC_ BK858.out 2).trans rfl; have hfz79_0 := bF_ BK858.out 0; have hfz79_1 := bF_ BK858.out 1; have hfz79_2 := bF_ BK858.out 2) | ((with_reducible refine gate_callee (f := 14) rfl ?_); refine goesL_ (some 129) rfl rfl Try.func14 (by kernel_rfl) rfl #[.pointer (some ⟨g785, 0, none⟩), .agg #[.int .i64 t854, .int .i64 t855, .int .i64 t856]] rfl (by (try simp only [List.map_toArray, List.map_cons, List.map_nil]); first | done | rfl) ?_; (with_reducible refine (period_Year_Index.calls kj58 g785 t843 t844 t845 t846 t847 t848 t849 t850 t851 t854 t855 t856 t859 t860 t861 t862 t863 t864 t865 t866 t867 t868 t869 w _ ?side1 ?side2 A68.out).mono ?_); (case side1 => repeat (first | (with_reducible first | exact HI785.out | apply sA_ | apply sN_ | apply sD_ | refine sF_ ?_ NB785_774.out _ | refine sF_ ?_ NB785_858.out _) | exact HI785.out)); (case side2 => repeat (first | (with_reducible first | exact HB.out | apply lA_ | apply lN_ | apply lD_ | refine lS_ ?_ (sG_ HI785.out) | refine lS_ ?_ GE774.out | refine lS_ ?_ GE858.out) | exact HB.out)); rintro e w80 ⟨rfl, hi, hb, hk⟩; refine ⟨_, rfl, ?_⟩; have n0_ := a0_ (KeepBut.blk hk (g' := gb774) (o := .cells #[.int .i64 a1_0, .int .i64 a1_1, .int .i64 a1_2] 23 (0, 0)) (by (with_reducible repeat first | apply bN_ | apply bD_ | apply bA_); refine blk_far ?_ NB774_858.out _; (with_reducible repeat first | apply bN_ | apply bD_ | apply bA_); refine blk_far ?_ NB774_858.out _; (with_reducible repeat first | apply bN_ | apply bD_ | apply bA_); refine blk_far ?_ NB774_858.out _; (with_reducible repeat first | apply bN_ | apply bD_ | apply bA_); exact BK774.out) NB774_785.out (by simp)); have n1_ := a0_ (KeepBut.blk hk (g' := gb858) (o := .cells #[.int .i64 t854, .int .i64 t855, .int .i64 t856] 23 (0, 0)) (by (with_reducible repeat first | apply bN_ | apply bD_ | apply bA_); refine blk_put (cs := #[.int .i64 t854, .int .i64 t855, .int .i64 0]) ?_ 2 _ rfl; (with_reducible repeat first | apply bN_ | apply bD_ | apply bA_); refine blk_put (cs := #[.int .i64 t854, .int .i64 0, .int .i64 0]) ?_ 1 _ rfl; (with_reducible repeat first | apply bN_ | apply bD_ | apply bA_); refine blk_put (cs := #[.int .i64 0, .int .i64 0, .int .i64 0]) ?_ 0 _ rfl; (with_reducible repeat first | apply bN_ | apply bD_ | apply bA_); exact BK858.out) NB858_785.out (by simp)); have n2_ := a0_ (hb); have n3_ := a0_ (hi); clear BK774; clear BK858; clear HB; clear HI785; have BK774 := n0_; have BK858 := n1_; have HB := n2_; have HI785 := n3_; clear n0_ n1_ n2_ n3_; (try clear hb); (try clear hb2); (try clear hk); (try clear hi); have hcz81_0 : w80.cell? ⟨gb858, 0, none⟩ = some (.int .i64 t854) := (bC_ BK858.out 0).trans rfl; have hcz81_1 : w80.cell? ⟨gb858, 1, none⟩ = some (.int .i64 t855) := (bC_ BK858.out 1).trans rfl; have hcz81_2 : w80.cell? ⟨gb858, 2, none⟩ = some (.int .i64 t856) := (bC_ BK858.out 2).trans rfl; have hfz81_0 := bF_ BK858.out 0; have hfz81_1 := bF_ BK858.out 1; have hfz81_2 := bF_ BK858.out 2) | ((with_reducible refine gate_callee (f := 23) rfl ?_); refine goesL_ (some 133) rfl rfl Try.func23 (by kernel_rfl) rfl #[.agg #[.int .i64 t854, .int .i64 t855, .int .i64 t856]] rfl (by (try simp only [List.map_toArray, List.map_cons, List.map_nil]); first | done | rfl) ?_; (with_reducible refine (stipendref03_Number.calls kj58 t854 t855 t856 t870 _ A69.out).mono ?_); rintro e w82 ⟨rfl, hb⟩; refine ⟨_, rfl, ?_⟩; have n0_ := a0_ (bB_ (g := gb774) (o := .cells #[.int .i64 a1_0, .int .i64 a1_1, .int .i64 a1_2] 23 (0, 0)) (by (with_reducible repeat first | apply bN_ | apply bD_ | apply bA_); exact BK774.out) hb); have n1_ := a0_ (IsS62.below (by repeat (first | (with_reducible first | exact HI785.out | apply sA_ | apply sN_ | apply sD_ | refine sF_ ?_ NB785_774.out _ | refine sF_ ?_ NB785_858.out _) | exact HI785.out)) hb); have n2_ := a0_ (bB_ (g := gb858) (o := .cells #[.int .i64 t854, .int .i64 t855, .int .i64 t856] 23 (0, 0)) (by (with_reducible repeat first | apply bN_ | apply bD_ | apply bA_); exact BK858.out) hb); have n3_ := a0_ (below_step (by repeat (first | (with_reducible first | exact HB.out | apply lA_ | apply lN_ | apply lD_ | refine lS_ ?_ (sG_ HI785.out) | refine lS_ ?_ GE774.out | refine lS_ ?_ GE858.out) | exact HB.out)) hb); clear BK774; clear HI785; clear BK858; clear HB; have BK774 := n0_; have HI785 := n1_; have BK858 := n2_; have HB := n3_; clear n0_ n1_ n2_ n3_; (try clear hb); (try clear hb2); (try clear hk); (try clear hi)))
             go_ret
             exact ⟨by first | rfl | (simp [errW_none, errW_some] <;> rfl) | (simp [*, errW_none, errW_some] <;> rfl), by repeat (first | (with_reducible first | exact HB.out | apply lA_ | apply lN_ | apply lD_ | refine lS_ ?_ (sG_ HI785.out) | refine lS_ ?_ GE774.out | refine lS_ ?_ GE858.out) | exact HB.out)⟩
            ·rw [if_neg c71] at H
             exact absurd H (by simp)
           ·rw [if_neg c70] at H
            have c70b0 : decide (x9_1 ≤ t870) = false := decide_eq_false c70
            clear c70
            replace H := oB_ H
            obtain ⟨⟨t871, t872, t873, t874, t875, t876, t877, t878, t879, t880, t881, t882, t883, t884, t885, t886⟩, A830, H⟩ := H
            replace H : (if t860 = 0 then ((date_Compare.f t871 t872 t873 t854 t855 t856).bind fun t889 => (if t889 ≤ 0 then ((date_Compare.f t854 t855 t856 t874 t875 t876).bind fun t890 => (some (decide (t890 ≤ 0)))) else (none))) else (none)) = some r := H
            have A83 := a0_ A830
            clear A830
            by_cases c84 : t860 = 0
            ·rw [if_pos c84] at H
             have c84b0 : (t860 == 0) = true := beq_iff_eq.mpr c84
             have c84b1 : (t860 != 0) = false := bne_eq_false_iff_eq.mpr c84
             clear c84
             replace H := oB_ H
             obtain ⟨t889, A850, H⟩ := H
             replace H : (if t889 ≤ 0 then ((date_Compare.f t854 t855 t856 t874 t875 t876).bind fun t890 => (some (decide (t890 ≤ 0)))) else (none)) = some r := H
             have A85 := a0_ A850
             clear A850
             by_cases c86 : t889 ≤ 0
             ·rw [if_pos c86] at H
              have c86b0 : decide (t889 ≤ 0) = true := decide_eq_true c86
              clear c86
              replace H := oB_ H
              obtain ⟨t890, A870, H⟩ := H
              replace H : (some (decide (t890 ≤ 0))) = some r := H
              have A87 := a0_ A870
              clear A870
              obtain rfl := Option.some.inj H
              have hnb88 := NB774_785.out
              have hnc88 := NB785_774.out
              have hcz89_0 : wc.cell? ⟨gb774, 0, none⟩ = some (.int .i64 a1_0) := (bC_ BK774.out 0).trans rfl
              have hcz89_1 : wc.cell? ⟨gb774, 1, none⟩ = some (.int .i64 a1_1) := (bC_ BK774.out 1).trans rfl
              have hcz89_2 : wc.cell? ⟨gb774, 2, none⟩ = some (.int .i64 a1_2) := (bC_ BK774.out 2).trans rfl
              have hfz89_0 := bF_ BK774.out 0
              have hfz89_1 := bF_ BK774.out 1
              have hfz89_2 := bF_ BK774.out 2
              go_wp2_with (first | ((with_reducible refine gate_callee (f := 23) rfl ?_); refine goesL_ (some 118) rfl rfl Try.func23 (by kernel_rfl) rfl #[.agg #[.int .i64 a1_0, .int .i64 a1_1, .int .i64 a1_2]] rfl (by (try simp only [List.map_toArray, List.map_cons, List.map_nil]); first | done | rfl) ?_; (with_reducible refine (stipendref03_Number.calls kj58 a1_0 a1_1 a1_2 t853 _ A65.out).mono ?_); rintro e w90 ⟨rfl, hb⟩; refine ⟨_, rfl, ?_⟩; have n0_ := a0_ (bB_ (g := gb774) (o := .cells #[.int .i64 a1_0, .int .i64 a1_1, .int .i64 a1_2] 23 (0, 0)) (by (with_reducible repeat first | apply bN_ | apply bD_ | apply bA_); exact BK774.out) hb); have n1_ := a0_ (IsS62.below (by repeat (first | (with_reducible first | exact HI785.out | apply sA_ | apply sN_ | apply sD_ | refine sF_ ?_ NB785_774.out _) | exact HI785.out)) hb); have n2_ := a0_ (below_step (by repeat (first | (with_reducible first | exact HB.out | apply lA_ | apply lN_ | apply lD_ | refine lS_ ?_ (sG_ HI785.out) | refine lS_ ?_ GE774.out) | exact HB.out)) hb); clear BK774; clear HI785; clear HB; have BK774 := n0_; have HI785 := n1_; have HB := n2_; clear n0_ n1_ n2_; (try clear hb); (try clear hb2); (try clear hk); (try clear hi)) | ((with_reducible refine gate_callee (f := 27) rfl ?_); refine goesL_ (some 121) rfl rfl Try.func27 (by kernel_rfl) rfl #[.int .i64 (wrap64 (t853 + a2))] rfl (by (try simp only [List.map_toArray, List.map_cons, List.map_nil]); first | done | rfl) ?_; (with_reducible refine (stipendref03_Of.calls kj58 (wrap64 (t853 + a2)) t854 t855 t856 true _ A66.out).mono ?_); rintro e w91 ⟨rfl, hb⟩; refine ⟨_, rfl, ?_⟩; have n0_ := a0_ (bB_ (g := gb774) (o := .cells #[.int .i64 a1_0, .int .i64 a1_1, .int .i64 a1_2] 23 (0, 0)) (by (with_reducible repeat first | apply bN_ | apply bD_ | apply bA_); exact BK774.out) hb); have n1_ := a0_ (IsS62.below (by repeat (first | (with_reducible first | exact HI785.out | apply sA_ | apply sN_ | apply sD_ | refine sF_ ?_ NB785_774.out _) | exact HI785.out)) hb); have n2_ := a0_ (below_step (by repeat (first | (with_reducible first | exact HB.out | apply lA_ | apply lN_ | apply lD_ | refine lS_ ?_ (sG_ HI785.out) | refine lS_ ?_ GE774.out) | exact HB.out)) hb); clear BK774; clear HI785; clear HB; have BK774 := n0_; have HI785 := n1_; have HB := n2_; clear n0_ n1_ n2_; (try clear hb); (try clear hb2); (try clear hk); (try clear hi)) | ((with_reducible refine gate_dst (N := 20) rfl ?_); refine box_event ?hg (N := 20) ?hd (cs := #[.int .i64 0, .int .i64 0, .int .i64 0]) (t := 23) ?hr ?_; (case hd => rfl); (case hg => rfl); (case hr => first | (go_simp; done) | (go_simp; rfl)); intro gb858 hg w92 hbox hb; have n0_ := a0_ (bB_ (g := gb774) (o := .cells #[.int .i64 a1_0, .int .i64 a1_1, .int .i64 a1_2] 23 (0, 0)) (by (with_reducible repeat first | apply bN_ | apply bD_ | apply bA_); exact BK774.out) hb); have n1_ := a0_ (IsS62.below (by repeat (first | (with_reducible first | exact HI785.out | apply sA_ | apply sN_ | apply sD_ | refine sF_ ?_ NB785_774.out _) | exact HI785.out)) hb); have n2_ := a0_ (below_step (by repeat (first | (with_reducible first | exact HB.out | apply lA_ | apply lN_ | apply lD_ | refine lS_ ?_ (sG_ HI785.out) | refine lS_ ?_ GE774.out) | exact HB.out)) hb); have n3_ := a0_ (hbox); have n4_ := a0_ ((by rw [hg]; exact (below_size (by repeat (first | (with_reducible first | exact HB.out | apply lA_ | apply lN_ | apply lD_ | refine lS_ ?_ (sG_ HI785.out) | refine lS_ ?_ GE774.out) | exact HB.out))) : w.heap.size ≤ gb858)); have n5_ := a0_ ((by rw [hg]; exact (below_size (by repeat (first | (with_reducible first | exact HB.out | apply lA_ | apply lN_ | apply lD_ | refine lS_ ?_ (sG_ HI785.out) | refine lS_ ?_ GE774.out) | exact HB.out))) : w.heap.size ≤ gb858)); have n6_ := a0_ ((by rw [hg]; exact Nat.ne_of_lt (blk_lt (g := gb774) (o := .cells #[.int .i64 a1_0, .int .i64 a1_1, .int .i64 a1_2] 23 (0, 0)) (by (with_reducible repeat first | apply bN_ | apply bD_ | apply bA_); exact BK774.out)) : gb774 ≠ gb858)); have n7_ := a0_ ((by rw [hg]; exact Nat.ne_of_gt (blk_lt (g := gb774) (o := .cells #[.int .i64 a1_0, .int .i64 a1_1, .int .i64 a1_2] 23 (0, 0)) (by (with_reducible repeat first | apply bN_ | apply bD_ | apply bA_); exact BK774.out)) : gb858 ≠ gb774)); have n8_ := a0_ ((by rw [hg]; exact Nat.ne_of_lt (IsS62.lt (show IsS62 w _ g785 t843 t844 t845 t846 t847 t848 t849 t850 t851 from by repeat (first | (with_reducible first | exact HI785.out | apply sA_ | apply sN_ | apply sD_ | refine sF_ ?_ NB785_774.out _) | exact HI785.out))) : g785 ≠ gb858)); have n9_ := a0_ ((by rw [hg]; exact Nat.ne_of_gt (IsS62.lt (show IsS62 w _ g785 t843 t844 t845 t846 t847 t848 t849 t850 t851 from by repeat (first | (with_reducible first | exact HI785.out | apply sA_ | apply sN_ | apply sD_ | refine sF_ ?_ NB785_774.out _) | exact HI785.out))) : gb858 ≠ g785)); clear BK774; clear HI785; clear HB; have BK774 := n0_; have HI785 := n1_; have HB := n2_; have BK858 := n3_; have GW858 := n4_; have GE858 := n5_; have NB774_858 := n6_; have NB858_774 := n7_; have NB785_858 := n8_; have NB858_785 := n9_; clear n0_ n1_ n2_ n3_ n4_ n5_ n6_ n7_ n8_ n9_; clear hb hbox hg; have hnb93 := NB858_774.out; have hnc93 := NB774_858.out; have hnb94 := NB858_785.out; have hnc94 := NB785_858.out; have hcz95_0 : w92.cell? ⟨gb858, 0, none⟩ = some (.int .i64 0) := (bC_ BK858.out 0).trans rfl; have hcz95_1 : w92.cell? ⟨gb858, 1, none⟩ = some (.int .i64 0) := (bC_ BK858.out 1).trans rfl; have hcz95_2 : w92.cell? ⟨gb858, 2, none⟩ = some (.int .i64 0) := (bC_ BK858.out 2).trans rfl; have hfz95_0 := bF_ BK858.out 0; have hfz95_1 := bF_ BK858.out 1; have hfz95_2 := bF_ BK858.out 2) | ((with_reducible refine gate_callee (f := 14) rfl ?_); refine goesL_ (some 129) rfl rfl Try.func14 (by kernel_rfl) rfl #[.pointer (some ⟨g785, 0, none⟩), .agg #[.int .i64 t854, .int .i64 t855, .int .i64 t856]] rfl (by (try simp only [List.map_toArray, List.map_cons, List.map_nil]); first | done | rfl) ?_; (with_reducible refine (period_Year_Index.calls kj58 g785 t843 t844 t845 t846 t847 t848 t849 t850 t851 t854 t855 t856 t859 t860 t861 t862 t863 t864 t865 t866 t867 t868 t869 w _ ?side1 ?side2 A68.out).mono ?_); (case side1 => repeat (first | (with_reducible first | exact HI785.out | apply sA_ | apply sN_ | apply sD_ | refine sF_ ?_ NB785_774.out _ | refine sF_ ?_ NB785_858.out _) | exact HI785.out)); (case side2 => repeat (first | (with_reducible first | exact HB.out | apply lA_ | apply lN_ | apply lD_ | refine lS_ ?_ (sG_ HI785.out) | refine lS_ ?_ GE774.out | refine lS_ ?_ GE858.out) | exact HB.out)); rintro e w96 ⟨rfl, hi, hb, hk⟩; refine ⟨_, rfl, ?_⟩; have n0_ := a0_ (KeepBut.blk hk (g' := gb774) (o := .cells #[.int .i64 a1_0, .int .i64 a1_1, .int .i64 a1_2] 23 (0, 0)) (by (with_reducible repeat first | apply bN_ | apply bD_ | apply bA_); refine blk_far ?_ NB774_858.out _; (with_reducible repeat first | apply bN_ | apply bD_ | apply bA_); refine blk_far ?_ NB774_858.out _; (with_reducible repeat first | apply bN_ | apply bD_ | apply bA_); refine blk_far ?_ NB774_858.out _; (with_reducible repeat first | apply bN_ | apply bD_ | apply bA_); exact BK774.out) NB774_785.out (by simp)); have n1_ := a0_ (KeepBut.blk hk (g' := gb858) (o := .cells #[.int .i64 t854, .int .i64 t855, .int .i64 t856] 23 (0, 0)) (by (with_reducible repeat first | apply bN_ | apply bD_ | apply bA_); refine blk_put (cs := #[.int .i64 t854, .int .i64 t855, .int .i64 0]) ?_ 2 _ rfl; (with_reducible repeat first | apply bN_ | apply bD_ | apply bA_); refine blk_put (cs := #[.int .i64 t854, .int .i64 0, .int .i64 0]) ?_ 1 _ rfl; (with_reducible repeat first | apply bN_ | apply bD_ | apply bA_); refine blk_put (cs := #[.int .i64 0, .int .i64 0, .int .i64 0]) ?_ 0 _ rfl; (with_reducible repeat first | apply bN_ | apply bD_ | apply bA_); exact BK858.out) NB858_785.out (by simp)); have n2_ := a0_ (hb); have n3_ := a0_ (hi); clear BK774; clear BK858; clear HB; clear HI785; have BK774 := n0_; have BK858 := n1_; have HB := n2_; have HI785 := n3_; clear n0_ n1_ n2_ n3_; (try clear hb); (try clear hb2); (try clear hk); (try clear hi); have hcz97_0 : w96.cell? ⟨gb858, 0, none⟩ = some (.int .i64 t854) := (bC_ BK858.out 0).trans rfl; have hcz97_1 : w96.cell? ⟨gb858, 1, none⟩ = some (.int .i64 t855) := (bC_ BK858.out 1).trans rfl; have hcz97_2 : w96.cell? ⟨gb858, 2, none⟩ = some (.int .i64 t856) := (bC_ BK858.out 2).trans rfl; have hfz97_0 := bF_ BK858.out 0; have hfz97_1 := bF_ BK858.out 1; have hfz97_2 := bF_ BK858.out 2) | ((with_reducible refine gate_callee (f := 23) rfl ?_); refine goesL_ (some 133) rfl rfl Try.func23 (by kernel_rfl) rfl #[.agg #[.int .i64 t854, .int .i64 t855, .int .i64 t856]] rfl (by (try simp only [List.map_toArray, List.map_cons, List.map_nil]); first | done | rfl) ?_; (with_reducible refine (stipendref03_Number.calls kj58 t854 t855 t856 t870 _ A69.out).mono ?_); rintro e w98 ⟨rfl, hb⟩; refine ⟨_, rfl, ?_⟩; have n0_ := a0_ (bB_ (g := gb774) (o := .cells #[.int .i64 a1_0, .int .i64 a1_1, .int .i64 a1_2] 23 (0, 0)) (by (with_reducible repeat first | apply bN_ | apply bD_ | apply bA_); exact BK774.out) hb); have n1_ := a0_ (IsS62.below (by repeat (first | (with_reducible first | exact HI785.out | apply sA_ | apply sN_ | apply sD_ | refine sF_ ?_ NB785_774.out _ | refine sF_ ?_ NB785_858.out _) | exact HI785.out)) hb); have n2_ := a0_ (bB_ (g := gb858) (o := .cells #[.int .i64 t854, .int .i64 t855, .int .i64 t856] 23 (0, 0)) (by (with_reducible repeat first | apply bN_ | apply bD_ | apply bA_); exact BK858.out) hb); have n3_ := a0_ (below_step (by repeat (first | (with_reducible first | exact HB.out | apply lA_ | apply lN_ | apply lD_ | refine lS_ ?_ (sG_ HI785.out) | refine lS_ ?_ GE774.out | refine lS_ ?_ GE858.out) | exact HB.out)) hb); clear BK774; clear HI785; clear BK858; clear HB; have BK774 := n0_; have HI785 := n1_; have BK858 := n2_; have HB := n3_; clear n0_ n1_ n2_ n3_; (try clear hb); (try clear hb2); (try clear hk); (try clear hi)) | ((with_reducible refine gate_callee (f := 15) rfl ?_); refine goesL_ (some 145) rfl rfl Try.func15 (by kernel_rfl) rfl #[.pointer (some ⟨g785, 0, none⟩), .int .i64 t859] rfl (by (try simp only [List.map_toArray, List.map_cons, List.map_nil]); first | done | rfl) ?_; (with_reducible refine (period_Year_Span.calls kj58 g785 t861 t862 t863 t864 t865 t866 t867 t868 t869 t859 t871 t872 t873 t874 t875 t876 t877 t878 t879 t880 t881 t882 t883 t884 t885 t886 w _ ?side1 ?side2 A83.out).mono ?_); (case side1 => repeat (first | (with_reducible first | exact HI785.out | apply sA_ | apply sN_ | apply sD_ | refine sF_ ?_ NB785_774.out _ | refine sF_ ?_ NB785_858.out _) | exact HI785.out)); (case side2 => repeat (first | (with_reducible first | exact HB.out | apply lA_ | apply lN_ | apply lD_ | refine lS_ ?_ (sG_ HI785.out) | refine lS_ ?_ GE774.out | refine lS_ ?_ GE858.out) | exact HB.out)); rintro e w99 ⟨rfl, hi, hb, hk⟩; refine ⟨_, rfl, ?_⟩; have n0_ := a0_ (KeepBut.blk hk (g' := gb774) (o := .cells #[.int .i64 a1_0, .int .i64 a1_1, .int .i64 a1_2] 23 (0, 0)) (by (with_reducible repeat first | apply bN_ | apply bD_ | apply bA_); exact BK774.out) NB774_785.out (by simp)); have n1_ := a0_ (KeepBut.blk hk (g' := gb858) (o := .cells #[.int .i64 t854, .int .i64 t855, .int .i64 t856] 23 (0, 0)) (by (with_reducible repeat first | apply bN_ | apply bD_ | apply bA_); exact BK858.out) NB858_785.out (by simp)); have n2_ := a0_ (hb); have n3_ := a0_ (hi); clear BK774; clear BK858; clear HB; clear HI785; have BK774 := n0_; have BK858 := n1_; have HB := n2_; have HI785 := n3_; clear n0_ n1_ n2_ n3_; (try clear hb); (try clear hb2); (try clear hk); (try clear hi)) | ((with_reducible refine gate_dst (N := 24) rfl ?_); refine box_event ?hg (N := 24) ?hd (cs := #[.int .i64 0, .int .i64 0, .int .i64 0]) (t := 23) ?hr ?_; (case hd => rfl); (case hg => rfl); (case hr => first | (go_simp; done) | (go_simp; rfl)); intro gb887 hg w100 hbox hb; have n0_ := a0_ (bB_ (g := gb774) (o := .cells #[.int .i64 a1_0, .int .i64 a1_1, .int .i64 a1_2] 23 (0, 0)) (by (with_reducible repeat first | apply bN_ | apply bD_ | apply bA_); exact BK774.out) hb); have n1_ := a0_ (IsS62.below (by repeat (first | (with_reducible first | exact HI785.out | apply sA_ | apply sN_ | apply sD_ | refine sF_ ?_ NB785_774.out _ | refine sF_ ?_ NB785_858.out _) | exact HI785.out)) hb); have n2_ := a0_ (bB_ (g := gb858) (o := .cells #[.int .i64 t854, .int .i64 t855, .int .i64 t856] 23 (0, 0)) (by (with_reducible repeat first | apply bN_ | apply bD_ | apply bA_); exact BK858.out) hb); have n3_ := a0_ (below_step (by repeat (first | (with_reducible first | exact HB.out | apply lA_ | apply lN_ | apply lD_ | refine lS_ ?_ (sG_ HI785.out) | refine lS_ ?_ GE774.out | refine lS_ ?_ GE858.out) | exact HB.out)) hb); have n4_ := a0_ (hbox); have n5_ := a0_ ((by rw [hg]; exact (below_size (by repeat (first | (with_reducible first | exact HB.out | apply lA_ | apply lN_ | apply lD_ | refine lS_ ?_ (sG_ HI785.out) | refine lS_ ?_ GE774.out | refine lS_ ?_ GE858.out) | exact HB.out))) : w.heap.size ≤ gb887)); have n6_ := a0_ ((by rw [hg]; exact (below_size (by repeat (first | (with_reducible first | exact HB.out | apply lA_ | apply lN_ | apply lD_ | refine lS_ ?_ (sG_ HI785.out) | refine lS_ ?_ GE774.out | refine lS_ ?_ GE858.out) | exact HB.out))) : w.heap.size ≤ gb887)); have n7_ := a0_ ((by rw [hg]; exact Nat.ne_of_lt (blk_lt (g := gb774) (o := .cells #[.int .i64 a1_0, .int .i64 a1_1, .int .i64 a1_2] 23 (0, 0)) (by (with_reducible repeat first | apply bN_ | apply bD_ | apply bA_); exact BK774.out)) : gb774 ≠ gb887)); have n8_ := a0_ ((by rw [hg]; exact Nat.ne_of_gt (blk_lt (g := gb774) (o := .cells #[.int .i64 a1_0, .int .i64 a1_1, .int .i64 a1_2] 23 (0, 0)) (by (with_reducible repeat first | apply bN_ | apply bD_ | apply bA_); exact BK774.out)) : gb887 ≠ gb774)); have n9_ := a0_ ((by rw [hg]; exact Nat.ne_of_lt (blk_lt (g := gb858) (o := .cells #[.int .i64 t854, .int .i64 t855, .int .i64 t856] 23 (0, 0)) (by (with_reducible repeat first | apply bN_ | apply bD_ | apply bA_); exact BK858.out)) : gb858 ≠ gb887)); have n10_ := a0_ ((by rw [hg]; exact Nat.ne_of_gt (blk_lt (g := gb858) (o := .cells #[.int .i64 t854, .int .i64 t855, .int .i64 t856] 23 (0, 0)) (by (with_reducible repeat first | apply bN_ | apply bD_ | apply bA_); exact BK858.out)) : gb887 ≠ gb858)); have n11_ := a0_ ((by rw [hg]; exact Nat.ne_of_lt (IsS62.lt (show IsS62 w _ g785 t878 t879 t880 t881 t882 t883 t884 t885 t886 from by repeat (first | (with_reducible first | exact HI785.out | apply sA_ | apply sN_ | apply sD_ | refine sF_ ?_ NB785_774.out _ | refine sF_ ?_ NB785_858.out _) | exact HI785.out))) : g785 ≠ gb887)); have n12_ := a0_ ((by rw [hg]; exact Nat.ne_of_gt (IsS62.lt (show IsS62 w _ g785 t878 t879 t880 t881 t882 t883 t884 t885 t886 from by repeat (first | (with_reducible first | exact HI785.out | apply sA_ | apply sN_ | apply sD_ | refine sF_ ?_ NB785_774.out _ | refine sF_ ?_ NB785_858.out _) | exact HI785.out))) : gb887 ≠ g785)); clear BK774; clear HI785; clear BK858; clear HB; have BK774 := n0_; have HI785 := n1_; have BK858 := n2_; have HB := n3_; have BK887 := n4_; have GW887 := n5_; have GE887 := n6_; have NB774_887 := n7_; have NB887_774 := n8_; have NB858_887 := n9_; have NB887_858 := n10_; have NB785_887 := n11_; have NB887_785 := n12_; clear n0_ n1_ n2_ n3_ n4_ n5_ n6_ n7_ n8_ n9_ n10_ n11_ n12_; clear hb hbox hg) | ((with_reducible refine gate_dst (N := 25) rfl ?_); refine box_event ?hg (N := 25) ?hd (cs := #[.int .i64 0, .int .i64 0, .int .i64 0]) (t := 23) ?hr ?_; (case hd => rfl); (case hg => rfl); (case hr => first | (go_simp; done) | (go_simp; rfl)); intro gb888 hg w101 hbox hb; have n0_ := a0_ (bB_ (g := gb774) (o := .cells #[.int .i64 a1_0, .int .i64 a1_1, .int .i64 a1_2] 23 (0, 0)) (by (with_reducible repeat first | apply bN_ | apply bD_ | apply bA_); exact BK774.out) hb); have n1_ := a0_ (IsS62.below (by repeat (first | (with_reducible first | exact HI785.out | apply sA_ | apply sN_ | apply sD_ | refine sF_ ?_ NB785_774.out _ | refine sF_ ?_ NB785_858.out _ | refine sF_ ?_ NB785_887.out _) | exact HI785.out)) hb); have n2_ := a0_ (bB_ (g := gb858) (o := .cells #[.int .i64 t854, .int .i64 t855, .int .i64 t856] 23 (0, 0)) (by (with_reducible repeat first | apply bN_ | apply bD_ | apply bA_); exact BK858.out) hb); have n3_ := a0_ (bB_ (g := gb887) (o := .cells #[.int .i64 0, .int .i64 0, .int .i64 0] 23 (0, 0)) (by (with_reducible repeat first | apply bN_ | apply bD_ | apply bA_); exact BK887.out) hb); have n4_ := a0_ (below_step (by repeat (first | (with_reducible first | exact HB.out | apply lA_ | apply lN_ | apply lD_ | refine lS_ ?_ (sG_ HI785.out) | refine lS_ ?_ GE774.out | refine lS_ ?_ GE858.out | refine lS_ ?_ GE887.out) | exact HB.out)) hb); have n5_ := a0_ (hbox); have n6_ := a0_ ((by rw [hg]; exact (below_size (by repeat (first | (with_reducible first | exact HB.out | apply lA_ | apply lN_ | apply lD_ | refine lS_ ?_ (sG_ HI785.out) | refine lS_ ?_ GE774.out | refine lS_ ?_ GE858.out | refine lS_ ?_ GE887.out) | exact HB.out))) : w.heap.size ≤ gb888)); have n7_ := a0_ ((by rw [hg]; exact (below_size (by repeat (first | (with_reducible first | exact HB.out | apply lA_ | apply lN_ | apply lD_ | refine lS_ ?_ (sG_ HI785.out) | refine lS_ ?_ GE774.out | refine lS_ ?_ GE858.out | refine lS_ ?_ GE887.out) | exact HB.out))) : w.heap.size ≤ gb888)); have n8_ := a0_ ((by rw [hg]; exact Nat.ne_of_lt (blk_lt (g := gb774) (o := .cells #[.int .i64 a1_0, .int .i64 a1_1, .int .i64 a1_2] 23 (0, 0)) (by (with_reducible repeat first | apply bN_ | apply bD_ | apply bA_); exact BK774.out)) : gb774 ≠ gb888)); have n9_ := a0_ ((by rw [hg]; exact Nat.ne_of_gt (blk_lt (g := gb774) (o := .cells #[.int .i64 a1_0, .int .i64 a1_1, .int .i64 a1_2] 23 (0, 0)) (by (with_reducible repeat first | apply bN_ | apply bD_ | apply bA_); exact BK774.out)) : gb888 ≠ gb774)); have n10_ := a0_ ((by rw [hg]; exact Nat.ne_of_lt (blk_lt (g := gb858) (o := .cells #[.int .i64 t854, .int .i64 t855, .int .i64 t856] 23 (0, 0)) (by (with_reducible repeat first | apply bN_ | apply bD_ | apply bA_); exact BK858.out)) : gb858 ≠ gb888)); have n11_ := a0_ ((by rw [hg]; exact Nat.ne_of_gt (blk_lt (g := gb858) (o := .cells #[.int .i64 t854, .int .i64 t855, .int .i64 t856] 23 (0, 0)) (by (with_reducible repeat first | apply bN_ | apply bD_ | apply bA_); exact BK858.out)) : gb888 ≠ gb858)); have n12_ := a0_ ((by rw [hg]; exact Nat.ne_of_lt (blk_lt (g := gb887) (o := .cells #[.int .i64 0, .int .i64 0, .int .i64 0] 23 (0, 0)) (by (with_reducible repeat first | apply bN_ | apply bD_ | apply bA_); exact BK887.out)) : gb887 ≠ gb888)); have n13_ := a0_ ((by rw [hg]; exact Nat.ne_of_gt (blk_lt (g := gb887) (o := .cells #[.int .i64 0, .int .i64 0, .int .i64 0] 23 (0, 0)) (by (with_reducible repeat first | apply bN_ | apply bD_ | apply bA_); exact BK887.out)) : gb888 ≠ gb887)); have n14_ := a0_ ((by rw [hg]; exact Nat.ne_of_lt (IsS62.lt (show IsS62 w _ g785 t878 t879 t880 t881 t882 t883 t884 t885 t886 from by repeat (first | (with_reducible first | exact HI785.out | apply sA_ | apply sN_ | apply sD_ | refine sF_ ?_ NB785_774.out _ | refine sF_ ?_ NB785_858.out _ | refine sF_ ?_ NB785_887.out _) | exact HI785.out))) : g785 ≠ gb888)); have n15_ := a0_ ((by rw [hg]; exact Nat.ne_of_gt (IsS62.lt (show IsS62 w _ g785 t878 t879 t880 t881 t882 t883 t884 t885 t886 from by repeat (first | (with_reducible first | exact HI785.out | apply sA_ | apply sN_ | apply sD_ | refine sF_ ?_ NB785_774.out _ | refine sF_ ?_ NB785_858.out _ | refine sF_ ?_ NB785_887.out _) | exact HI785.out))) : gb888 ≠ g785)); clear BK774; clear HI785; clear BK858; clear BK887; clear HB; have BK774 := n0_; have HI785 := n1_; have BK858 := n2_; have BK887 := n3_; have HB := n4_; have BK888 := n5_; have GW888 := n6_; have GE888 := n7_; have NB774_888 := n8_; have NB888_774 := n9_; have NB858_888 := n10_; have NB888_858 := n11_; have NB887_888 := n12_; have NB888_887 := n13_; have NB785_888 := n14_; have NB888_785 := n15_; clear n0_ n1_ n2_ n3_ n4_ n5_ n6_ n7_ n8_ n9_ n10_ n11_ n12_ n13_ n14_ n15_; clear hb hbox hg; have hnb102 := NB887_774.out; have hnc102 := NB774_887.out; have hnb103 := NB887_858.out; have hnc103 := NB858_887.out; have hnb104 := NB887_888.out; have hnc104 := NB888_887.out; have hnb105 := NB887_785.out; have hnc105 := NB785_887.out; have hcz106_0 : w101.cell? ⟨gb887, 0, none⟩ = some (.int .i64 0) := (bC_ BK887.out 0).trans rfl; have hcz106_1 : w101.cell? ⟨gb887, 1, none⟩ = some (.int .i64 0) := (bC_ BK887.out 1).trans rfl; have hcz106_2 : w101.cell? ⟨gb887, 2, none⟩ = some (.int .i64 0) := (bC_ BK887.out 2).trans rfl; have hfz106_0 := bF_ BK887.out 0; have hfz106_1 := bF_ BK887.out 1; have hfz106_2 := bF_ BK887.out 2; have hnb107 := NB888_774.out; have hnc107 := NB774_888.out; have hnb108 := NB888_858.out; have hnc108 := NB858_888.out; have hnb109 := NB888_785.out; have hnc109 := NB785_888.out; have hcz110_0 : w101.cell? ⟨gb888, 0, none⟩ = some (.int .i64 0) := (bC_ BK888.out 0).trans rfl; have hcz110_1 : w101.cell? ⟨gb888, 1, none⟩ = some (.int .i64 0) := (bC_ BK888.out 1).trans rfl; have hcz110_2 : w101.cell? ⟨gb888, 2, none⟩ = some (.int .i64 0) := (bC_ BK888.out 2).trans rfl; have hfz110_0 := bF_ BK888.out 0; have hfz110_1 := bF_ BK888.out 1; have hfz110_2 := bF_ BK888.out 2; have hcz111_0 : w101.cell? ⟨gb858, 0, none⟩ = some (.int .i64 t854) := (bC_ BK858.out 0).trans rfl; have hcz111_1 : w101.cell? ⟨gb858, 1, none⟩ = some (.int .i64 t855) := (bC_ BK858.out 1).trans rfl; have hcz111_2 : w101.cell? ⟨gb858, 2, none⟩ = some (.int .i64 t856) := (bC_ BK858.out 2).trans rfl; have hfz111_0 := bF_ BK858.out 0; have hfz111_1 := bF_ BK858.out 1; have hfz111_2 := bF_ BK858.out 2) | (go_at_call 28; (with_reducible refine (date_Compare.calls t871 t872 t873 t854 t855 t856 t889 _ A85.out).mono ?_); rintro e w112 ⟨rfl, hb⟩; have n0_ := a0_ (bB_ (g := gb774) (o := .cells #[.int .i64 a1_0, .int .i64 a1_1, .int .i64 a1_2] 23 (0, 0)) (by (with_reducible repeat first | apply bN_ | apply bD_ | apply bA_); refine blk_far ?_ NB774_888.out _; (with_reducible repeat first | apply bN_ | apply bD_ | apply bA_); refine blk_far ?_ NB774_888.out _; (with_reducible repeat first | apply bN_ | apply bD_ | apply bA_); refine blk_far ?_ NB774_888.out _; (with_reducible repeat first | apply bN_ | apply bD_ | apply bA_); refine blk_far ?_ NB774_887.out _; (with_reducible repeat first | apply bN_ | apply bD_ | apply bA_); refine blk_far ?_ NB774_887.out _; (with_reducible repeat first | apply bN_ | apply bD_ | apply bA_); refine blk_far ?_ NB774_887.out _; (with_reducible repeat first | apply bN_ | apply bD_ | apply bA_); exact BK774.out) hb); have n1_ := a0_ (IsS62.below (show IsS62 w ((((((w101.setCell ⟨gb887, 0, none⟩ (.int .i64 t871)).setCell ⟨gb887, 1, none⟩ (.int .i64 t872)).setCell ⟨gb887, 2, none⟩ (.int .i64 t873)).setCell ⟨gb888, 0, none⟩ (.int .i64 t874)).setCell ⟨gb888, 1, none⟩ (.int .i64 t875)).setCell ⟨gb888, 2, none⟩ (.int .i64 t876)) g785 t878 t879 t880 t881 t882 t883 t884 t885 t886 from by repeat (first | (with_reducible first | exact HI785.out | apply sA_ | apply sN_ | apply sD_ | refine sF_ ?_ NB785_774.out _ | refine sF_ ?_ NB785_858.out _ | refine sF_ ?_ NB785_887.out _ | refine sF_ ?_ NB785_888.out _) | exact HI785.out)) hb); have n2_ := a0_ (bB_ (g := gb858) (o := .cells #[.int .i64 t854, .int .i64 t855, .int .i64 t856] 23 (0, 0)) (by (with_reducible repeat first | apply bN_ | apply bD_ | apply bA_); refine blk_far ?_ NB858_888.out _; (with_reducible repeat first | apply bN_ | apply bD_ | apply bA_); refine blk_far ?_ NB858_888.out _; (with_reducible repeat first | apply bN_ | apply bD_ | apply bA_); refine blk_far ?_ NB858_888.out _; (with_reducible repeat first | apply bN_ | apply bD_ | apply bA_); refine blk_far ?_ NB858_887.out _; (with_reducible repeat first | apply bN_ | apply bD_ | apply bA_); refine blk_far ?_ NB858_887.out _; (with_reducible repeat first | apply bN_ | apply bD_ | apply bA_); refine blk_far ?_ NB858_887.out _; (with_reducible repeat first | apply bN_ | apply bD_ | apply bA_); exact BK858.out) hb); have n3_ := a0_ (bB_ (g := gb887) (o := .cells #[.int .i64 t871, .int .i64 t872, .int .i64 t873] 23 (0, 0)) (by (with_reducible repeat first | apply bN_ | apply bD_ | apply bA_); refine blk_far ?_ NB887_888.out _; (with_reducible repeat first | apply bN_ | apply bD_ | apply bA_); refine blk_far ?_ NB887_888.out _; (with_reducible repeat first | apply bN_ | apply bD_ | apply bA_); refine blk_far ?_ NB887_888.out _; (with_reducible repeat first | apply bN_ | apply bD_ | apply bA_); refine blk_put (cs := #[.int .i64 t871, .int .i64 t872, .int .i64 0]) ?_ 2 _ rfl; (with_reducible repeat first | apply bN_ | apply bD_ | apply bA_); refine blk_put (cs := #[.int .i64 t871, .int .i64 0, .int .i64 0]) ?_ 1 _ rfl; (with_reducible repeat first | apply bN_ | apply bD_ | apply bA_); refine blk_put (cs := #[.int .i64 0, .int .i64 0, .int .i64 0]) ?_ 0 _ rfl; (with_reducible repeat first | apply bN_ | apply bD_ | apply bA_); exact BK887.out) hb); have n4_ := a0_ (bB_ (g := gb888) (o := .cells #[.int .i64 t874, .int .i64 t875, .int .i64 t876] 23 (0, 0)) (by (with_reducible repeat first | apply bN_ | apply bD_ | apply bA_); refine blk_put (cs := #[.int .i64 t874, .int .i64 t875, .int .i64 0]) ?_ 2 _ rfl; (with_reducible repeat first | apply bN_ | apply bD_ | apply bA_); refine blk_put (cs := #[.int .i64 t874, .int .i64 0, .int .i64 0]) ?_ 1 _ rfl; (with_reducible repeat first | apply bN_ | apply bD_ | apply bA_); refine blk_put (cs := #[.int .i64 0, .int .i64 0, .int .i64 0]) ?_ 0 _ rfl; (with_reducible repeat first | apply bN_ | apply bD_ | apply bA_); refine blk_far ?_ NB888_887.out _; (with_reducible repeat first | apply bN_ | apply bD_ | apply bA_); refine blk_far ?_ NB888_887.out _; (with_reducible repeat first | apply bN_ | apply bD_ | apply bA_); refine blk_far ?_ NB888_887.out _; (with_reducible repeat first | apply bN_ | apply bD_ | apply bA_); exact BK888.out) hb); have n5_ := a0_ (below_step (by repeat (first | (with_reducible first | exact HB.out | apply lA_ | apply lN_ | apply lD_ | refine lS_ ?_ (sG_ HI785.out) | refine lS_ ?_ GE774.out | refine lS_ ?_ GE858.out | refine lS_ ?_ GE887.out | refine lS_ ?_ GE888.out) | exact HB.out)) hb); clear BK774; clear HI785; clear BK858; clear BK887; clear BK888; clear HB; have BK774 := n0_; have HI785 := n1_; have BK858 := n2_; have BK887 := n3_; have BK888 := n4_; have HB := n5_; clear n0_ n1_ n2_ n3_ n4_ n5_; (try clear hb); (try clear hb2); (try clear hk); (try clear hi); have hcz113_0 : w112.cell? ⟨gb858, 0, none⟩ = some (.int .i64 t854) := (bC_ BK858.out 0).trans rfl; have hcz113_1 : w112.cell? ⟨gb858, 1, none⟩ = some (.int .i64 t855) := (bC_ BK858.out 1).trans rfl; have hcz113_2 : w112.cell? ⟨gb858, 2, none⟩ = some (.int .i64 t856) := (bC_ BK858.out 2).trans rfl; have hfz113_0 := bF_ BK858.out 0; have hfz113_1 := bF_ BK858.out 1; have hfz113_2 := bF_ BK858.out 2; have hcz114_0 : w112.cell? ⟨gb888, 0, none⟩ = some (.int .i64 t874) := (bC_ BK888.out 0).trans rfl; have hcz114_1 : w112.cell? ⟨gb888, 1, none⟩ = some (.int .i64 t875) := (bC_ BK888.out 1).trans rfl; have hcz114_2 : w112.cell? ⟨gb888, 2, none⟩ = some (.int .i64 t876) := (bC_ BK888.out 2).trans rfl; have hfz114_0 := bF_ BK888.out 0; have hfz114_1 := bF_ BK888.out 1; have hfz114_2 := bF_ BK888.out 2) | (go_at_call 28; (with_reducible refine (date_Compare.calls t854 t855 t856 t874 t875 t876 t890 _ A87.out).mono ?_); rintro e w115 ⟨rfl, hb⟩; have n0_ := a0_ (bB_ (g := gb774) (o := .cells #[.int .i64 a1_0, .int .i64 a1_1, .int .i64 a1_2] 23 (0, 0)) (by (with_reducible repeat first | apply bN_ | apply bD_ | apply bA_); exact BK774.out) hb); have n1_ := a0_ (IsS62.below (by repeat (first | (with_reducible first | exact HI785.out | apply sA_ | apply sN_ | apply sD_ | refine sF_ ?_ NB785_774.out _ | refine sF_ ?_ NB785_858.out _ | refine sF_ ?_ NB785_887.out _ | refine sF_ ?_ NB785_888.out _) | exact HI785.out)) hb); have n2_ := a0_ (bB_ (g := gb858) (o := .cells #[.int .i64 t854, .int .i64 t855, .int .i64 t856] 23 (0, 0)) (by (with_reducible repeat first | apply bN_ | apply bD_ | apply bA_); exact BK858.out) hb); have n3_ := a0_ (bB_ (g := gb887) (o := .cells #[.int .i64 t871, .int .i64 t872, .int .i64 t873] 23 (0, 0)) (by (with_reducible repeat first | apply bN_ | apply bD_ | apply bA_); exact BK887.out) hb); have n4_ := a0_ (bB_ (g := gb888) (o := .cells #[.int .i64 t874, .int .i64 t875, .int .i64 t876] 23 (0, 0)) (by (with_reducible repeat first | apply bN_ | apply bD_ | apply bA_); exact BK888.out) hb); have n5_ := a0_ (below_step (by repeat (first | (with_reducible first | exact HB.out | apply lA_ | apply lN_ | apply lD_ | refine lS_ ?_ (sG_ HI785.out) | refine lS_ ?_ GE774.out | refine lS_ ?_ GE858.out | refine lS_ ?_ GE887.out | refine lS_ ?_ GE888.out) | exact HB.out)) hb); clear BK774; clear HI785; clear BK858; clear BK887; clear BK888; clear HB; have BK774 := n0_; have HI785 := n1_; have BK858 := n2_; have BK887 := n3_; have BK888 := n4_; have HB := n5_; clear n0_ n1_ n2_ n3_ n4_ n5_; (try clear hb); (try clear hb2); (try clear hk); (try clear hi)))
              go_ret
              exact ⟨by first | rfl | (simp [errW_none, errW_some] <;> rfl) | (simp [*, errW_none, errW_some] <;> rfl), by repeat (first | (with_reducible first | exact HB.out | apply lA_ | apply lN_ | apply lD_ | refine lS_ ?_ (sG_ HI785.out) | refine lS_ ?_ GE774.out | refine lS_ ?_ GE858.out | refine lS_ ?_ GE887.out | refine lS_ ?_ GE888.out) | exact HB.out)⟩
             ·rw [if_neg c86] at H
              exact absurd H (by simp)
            ·rw [if_neg c84] at H
             exact absurd H (by simp)
          ·replace c67 := Bool.eq_false_iff.mpr c67
           subst c67
           have H1 : (some true) = some r := by rw [if_neg (show ¬ (false = true) by decide)] at H; exact H
           clear H
           have H := H1
           clear H1
           obtain rfl := Option.some.inj H
           have hnb116 := NB774_785.out
           have hnc116 := NB785_774.out
           have hcz117_0 : wc.cell? ⟨gb774, 0, none⟩ = some (.int .i64 a1_0) := (bC_ BK774.out 0).trans rfl
           have hcz117_1 : wc.cell? ⟨gb774, 1, none⟩ = some (.int .i64 a1_1) := (bC_ BK774.out 1).trans rfl
           have hcz117_2 : wc.cell? ⟨gb774, 2, none⟩ = some (.int .i64 a1_2) := (bC_ BK774.out 2).trans rfl
           have hfz117_0 := bF_ BK774.out 0
           have hfz117_1 := bF_ BK774.out 1
           have hfz117_2 := bF_ BK774.out 2
           go_wp2_with (first | ((with_reducible refine gate_callee (f := 23) rfl ?_); refine goesL_ (some 118) rfl rfl Try.func23 (by kernel_rfl) rfl #[.agg #[.int .i64 a1_0, .int .i64 a1_1, .int .i64 a1_2]] rfl (by (try simp only [List.map_toArray, List.map_cons, List.map_nil]); first | done | rfl) ?_; (with_reducible refine (stipendref03_Number.calls kj58 a1_0 a1_1 a1_2 t853 _ A65.out).mono ?_); rintro e w118 ⟨rfl, hb⟩; refine ⟨_, rfl, ?_⟩; have n0_ := a0_ (bB_ (g := gb774) (o := .cells #[.int .i64 a1_0, .int .i64 a1_1, .int .i64 a1_2] 23 (0, 0)) (by (with_reducible repeat first | apply bN_ | apply bD_ | apply bA_); exact BK774.out) hb); have n1_ := a0_ (IsS62.below (by repeat (first | (with_reducible first | exact HI785.out | apply sA_ | apply sN_ | apply sD_ | refine sF_ ?_ NB785_774.out _) | exact HI785.out)) hb); have n2_ := a0_ (below_step (by repeat (first | (with_reducible first | exact HB.out | apply lA_ | apply lN_ | apply lD_ | refine lS_ ?_ (sG_ HI785.out) | refine lS_ ?_ GE774.out) | exact HB.out)) hb); clear BK774; clear HI785; clear HB; have BK774 := n0_; have HI785 := n1_; have HB := n2_; clear n0_ n1_ n2_; (try clear hb); (try clear hb2); (try clear hk); (try clear hi)) | ((with_reducible refine gate_callee (f := 27) rfl ?_); refine goesL_ (some 121) rfl rfl Try.func27 (by kernel_rfl) rfl #[.int .i64 (wrap64 (t853 + a2))] rfl (by (try simp only [List.map_toArray, List.map_cons, List.map_nil]); first | done | rfl) ?_; (with_reducible refine (stipendref03_Of.calls kj58 (wrap64 (t853 + a2)) t854 t855 t856 false _ A66.out).mono ?_); rintro e w119 ⟨rfl, hb⟩; refine ⟨_, rfl, ?_⟩; have n0_ := a0_ (bB_ (g := gb774) (o := .cells #[.int .i64 a1_0, .int .i64 a1_1, .int .i64 a1_2] 23 (0, 0)) (by (with_reducible repeat first | apply bN_ | apply bD_ | apply bA_); exact BK774.out) hb); have n1_ := a0_ (IsS62.below (by repeat (first | (with_reducible first | exact HI785.out | apply sA_ | apply sN_ | apply sD_ | refine sF_ ?_ NB785_774.out _) | exact HI785.out)) hb); have n2_ := a0_ (below_step (by repeat (first | (with_reducible first | exact HB.out | apply lA_ | apply lN_ | apply lD_ | refine lS_ ?_ (sG_ HI785.out) | refine lS_ ?_ GE774.out) | exact HB.out)) hb); clear BK774; clear HI785; clear HB; have BK774 := n0_; have HI785 := n1_; have HB := n2_; clear n0_ n1_ n2_; (try clear hb); (try clear hb2); (try clear hk); (try clear hi)) | ((with_reducible refine gate_dst (N := 20) rfl ?_); refine box_event ?hg (N := 20) ?hd (cs := #[.int .i64 0, .int .i64 0, .int .i64 0]) (t := 23) ?hr ?_; (case hd => rfl); (case hg => rfl); (case hr => first | (go_simp; done) | (go_simp; rfl)); intro gb858 hg w120 hbox hb; have n0_ := a0_ (bB_ (g := gb774) (o := .cells #[.int .i64 a1_0, .int .i64 a1_1, .int .i64 a1_2] 23 (0, 0)) (by (with_reducible repeat first | apply bN_ | apply bD_ | apply bA_); exact BK774.out) hb); have n1_ := a0_ (IsS62.below (by repeat (first | (with_reducible first | exact HI785.out | apply sA_ | apply sN_ | apply sD_ | refine sF_ ?_ NB785_774.out _) | exact HI785.out)) hb); have n2_ := a0_ (below_step (by repeat (first | (with_reducible first | exact HB.out | apply lA_ | apply lN_ | apply lD_ | refine lS_ ?_ (sG_ HI785.out) | refine lS_ ?_ GE774.out) | exact HB.out)) hb); have n3_ := a0_ (hbox); have n4_ := a0_ ((by rw [hg]; exact (below_size (by repeat (first | (with_reducible first | exact HB.out | apply lA_ | apply lN_ | apply lD_ | refine lS_ ?_ (sG_ HI785.out) | refine lS_ ?_ GE774.out) | exact HB.out))) : w.heap.size ≤ gb858)); have n5_ := a0_ ((by rw [hg]; exact (below_size (by repeat (first | (with_reducible first | exact HB.out | apply lA_ | apply lN_ | apply lD_ | refine lS_ ?_ (sG_ HI785.out) | refine lS_ ?_ GE774.out) | exact HB.out))) : w.heap.size ≤ gb858)); have n6_ := a0_ ((by rw [hg]; exact Nat.ne_of_lt (blk_lt (g := gb774) (o := .cells #[.int .i64 a1_0, .int .i64 a1_1, .int .i64 a1_2] 23 (0, 0)) (by (with_reducible repeat first | apply bN_ | apply bD_ | apply bA_); exact BK774.out)) : gb774 ≠ gb858)); have n7_ := a0_ ((by rw [hg]; exact Nat.ne_of_gt (blk_lt (g := gb774) (o := .cells #[.int .i64 a1_0, .int .i64 a1_1, .int .i64 a1_2] 23 (0, 0)) (by (with_reducible repeat first | apply bN_ | apply bD_ | apply bA_); exact BK774.out)) : gb858 ≠ gb774)); have n8_ := a0_ ((by rw [hg]; exact Nat.ne_of_lt (IsS62.lt (show IsS62 w _ g785 t843 t844 t845 t846 t847 t848 t849 t850 t851 from by repeat (first | (with_reducible first | exact HI785.out | apply sA_ | apply sN_ | apply sD_ | refine sF_ ?_ NB785_774.out _) | exact HI785.out))) : g785 ≠ gb858)); have n9_ := a0_ ((by rw [hg]; exact Nat.ne_of_gt (IsS62.lt (show IsS62 w _ g785 t843 t844 t845 t846 t847 t848 t849 t850 t851 from by repeat (first | (with_reducible first | exact HI785.out | apply sA_ | apply sN_ | apply sD_ | refine sF_ ?_ NB785_774.out _) | exact HI785.out))) : gb858 ≠ g785)); clear BK774; clear HI785; clear HB; have BK774 := n0_; have HI785 := n1_; have HB := n2_; have BK858 := n3_; have GW858 := n4_; have GE858 := n5_; have NB774_858 := n6_; have NB858_774 := n7_; have NB785_858 := n8_; have NB858_785 := n9_; clear n0_ n1_ n2_ n3_ n4_ n5_ n6_ n7_ n8_ n9_; clear hb hbox hg; have hnb121 := NB858_774.out; have hnc121 := NB774_858.out; have hnb122 := NB858_785.out; have hnc122 := NB785_858.out; have hcz123_0 : w120.cell? ⟨gb858, 0, none⟩ = some (.int .i64 0) := (bC_ BK858.out 0).trans rfl; have hcz123_1 : w120.cell? ⟨gb858, 1, none⟩ = some (.int .i64 0) := (bC_ BK858.out 1).trans rfl; have hcz123_2 : w120.cell? ⟨gb858, 2, none⟩ = some (.int .i64 0) := (bC_ BK858.out 2).trans rfl; have hfz123_0 := bF_ BK858.out 0; have hfz123_1 := bF_ BK858.out 1; have hfz123_2 := bF_ BK858.out 2))
           go_ret
           exact ⟨by first | rfl | (simp [errW_none, errW_some] <;> rfl) | (simp [*, errW_none, errW_some] <;> rfl), by repeat (first | (with_reducible first | exact HB.out | apply lA_ | apply lN_ | apply lD_ | refine lS_ ?_ (sG_ HI785.out) | refine lS_ ?_ GE774.out | refine lS_ ?_ GE858.out) | exact HB.out)⟩
      ·rw [if_neg c58] at H
       exact absurd H (by simp)
  ·rw [if_neg c6] at H
   have c6b0 : period_New.made a0 a1_0 a1_1 a1_2 = false := by simpa using c6
   clear c6
   replace H := oB_ H
   obtain ⟨t891, A1240, H⟩ := H
   replace H : (some true) = some r := H
   have A124 := a0_ A1240
   clear A1240
   obtain rfl := Option.some.inj H
   go_enter Try.func7, Try.ntmps7
   go_wp2_with (first | ((with_reducible refine gate_dst (N := 4) rfl ?_); refine box_event ?hg (N := 4) ?hd (cs := #[.int .i64 a1_0, .int .i64 a1_1, .int .i64 a1_2]) (t := 23) ?hr ?_; (case hd => rfl); (case hg => rfl); (case hr => first | (go_simp; done) | (go_simp; rfl)); intro gb774 hg w125 hbox hb; have n0_ := a0_ (below_step (by repeat (first | (with_reducible first | exact HB.out | apply lA_ | apply lN_ | apply lD_) | exact HB.out)) hb); have n1_ := a0_ (hbox); have n2_ := a0_ ((by rw [hg]; exact (below_size (by repeat (first | (with_reducible first | exact HB.out | apply lA_ | apply lN_ | apply lD_) | exact HB.out))) : w.heap.size ≤ gb774)); have n3_ := a0_ ((by rw [hg]; exact (below_size (by repeat (first | (with_reducible first | exact HB.out | apply lA_ | apply lN_ | apply lD_) | exact HB.out))) : w.heap.size ≤ gb774)); clear HB; have HB := n0_; have BK774 := n1_; have GW774 := n2_; have GE774 := n3_; clear n0_ n1_ n2_ n3_; clear hb hbox hg) | ((with_reducible refine gate_callee (f := 20) rfl ?_); refine goesL_ (some 27) rfl rfl Try.func20 (by kernel_rfl) rfl #[] rfl (by (try simp only [List.map_toArray, List.map_cons, List.map_nil]); first | done | rfl) ?_; (with_reducible refine (stipendlaw04_cuts.calls k  true _ A4.out).mono ?_); rintro e w126 ⟨rfl, hb⟩; refine ⟨_, rfl, ?_⟩; have n0_ := a0_ (bB_ (g := gb774) (o := .cells #[.int .i64 a1_0, .int .i64 a1_1, .int .i64 a1_2] 23 (0, 0)) (by (with_reducible repeat first | apply bN_ | apply bD_ | apply bA_); exact BK774.out) hb); have n1_ := a0_ (below_step (by repeat (first | (with_reducible first | exact HB.out | apply lA_ | apply lN_ | apply lD_ | refine lS_ ?_ GE774.out) | exact HB.out)) hb); clear BK774; clear HB; have BK774 := n0_; have HB := n1_; clear n0_ n1_; (try clear hb); (try clear hb2); (try clear hk); (try clear hi); have hcz127_0 : w126.cell? ⟨gb774, 0, none⟩ = some (.int .i64 a1_0) := (bC_ BK774.out 0).trans rfl; have hcz127_1 : w126.cell? ⟨gb774, 1, none⟩ = some (.int .i64 a1_1) := (bC_ BK774.out 1).trans rfl; have hcz127_2 : w126.cell? ⟨gb774, 2, none⟩ = some (.int .i64 a1_2) := (bC_ BK774.out 2).trans rfl; have hfz127_0 := bF_ BK774.out 0; have hfz127_1 := bF_ BK774.out 1; have hfz127_2 := bF_ BK774.out 2) | ((with_reducible refine gate_callee (f := 12) rfl ?_); refine goesL_ (some 32) rfl rfl Try.func12 (by kernel_rfl) rfl #[.int .i64 a0, .agg #[.int .i64 a1_0, .int .i64 a1_1, .int .i64 a1_2]] rfl (by (try simp only [List.map_toArray, List.map_cons, List.map_nil]); first | done | rfl) ?_; (with_reducible refine (period_New_B.calls k a0 a1_0 a1_1 a1_2 t891 _ A124.out).mono ?_); rintro e w128 ⟨rfl, hb⟩; refine ⟨_, rfl, ?_⟩; have n0_ := a0_ (bB_ (g := gb774) (o := .cells #[.int .i64 a1_0, .int .i64 a1_1, .int .i64 a1_2] 23 (0, 0)) (by (with_reducible repeat first | apply bN_ | apply bD_ | apply bA_); exact BK774.out) hb); have n1_ := a0_ (below_step (by repeat (first | (with_reducible first | exact HB.out | apply lA_ | apply lN_ | apply lD_ | refine lS_ ?_ GE774.out) | exact HB.out)) hb); clear BK774; clear HB; have BK774 := n0_; have HB := n1_; clear n0_ n1_; (try clear hb); (try clear hb2); (try clear hk); (try clear hi)))
   go_ret
   exact ⟨by first | rfl | (simp [errW_none, errW_some] <;> rfl) | (simp [*, errW_none, errW_some] <;> rfl), by repeat (first | (with_reducible first | exact HB.out | apply lA_ | apply lN_ | apply lD_ | refine lS_ ?_ GE774.out) | exact HB.out)⟩
 ·replace c5 := Bool.eq_false_iff.mpr c5
  subst c5
  have H1 : (none) = some r := by rw [if_neg (show ¬ (false = true) by decide)] at H; exact H
  clear H
  have H := H1
  clear H1
  exact absurd H (by simp)

/-- THE ONE PURE STATEMENT of stipendlaw04_PeriodCovers: yours. -/
def stipendlaw04_PeriodCovers.Pure : Prop := ∀ (a0 : Int) (a1_0 : Int) (a1_1 : Int) (a1_2 : Int) (a2 : Int), (Lit.int .i64 a0).wf = true → (Lit.int .i64 a1_0).wf = true → (Lit.int .i64 a1_1).wf = true → (Lit.int .i64 a1_2).wf = true → (Lit.int .i64 a2).wf = true → ∃ k, stipendlaw04_PeriodCovers.f k a0 a1_0 a1_1 a1_2 a2 = some true
theorem stipendlaw04_PeriodCovers.walk (P : stipendlaw04_PeriodCovers.Pure) (a0 : Int) (a1_0 : Int) (a1_1 : Int) (a1_2 : Int) (a2 : Int) (w : World) (w0 : (Lit.int .i64 a0).wf = true) (w1_0 : (Lit.int .i64 a1_0).wf = true) (w1_1 : (Lit.int .i64 a1_1).wf = true) (w1_2 : (Lit.int .i64 a1_2).wf = true) (w2 : (Lit.int .i64 a2).wf = true) :
  Calls Try.prog 7 #[.int .i64 a0, .agg #[.int .i64 a1_0, .int .i64 a1_1, .int .i64 a1_2], .int .i64 a2] w fun e w' => e = .returned (.bool true) ∧ Below w.heap.size w w' := by
 obtain ⟨k, h⟩ := P a0 a1_0 a1_1 a1_2 a2 w0 w1_0 w1_1 w1_2 w2
 refine (stipendlaw04_PeriodCovers.calls k a0 a1_0 a1_1 a1_2 a2 true w h).mono ?_
 rintro e w' ⟨rfl, hd⟩
 exact ⟨rfl, hd⟩

end Go.Proofs.Ytojinnnckfimhaa.X
