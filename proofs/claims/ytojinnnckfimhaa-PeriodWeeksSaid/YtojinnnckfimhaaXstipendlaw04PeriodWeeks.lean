-- laid by the session's own program (xprint.py) out of Lean's print of the program; Lean checks it
import Derived.Test.YtojinnnckfimhaaX0
import Derived.Test.YtojinnnckfimhaaXeq1
import Derived.Test.YtojinnnckfimhaaXdateBetween
import Derived.Test.YtojinnnckfimhaaXperiodNewA
import Derived.Test.YtojinnnckfimhaaXperiodlength
import Derived.Test.YtojinnnckfimhaaXperiodYearSpan
import Derived.Test.YtojinnnckfimhaaXperiodYearFreq
import Derived.Test.YtojinnnckfimhaaXstipendlaw04cuts
import Derived.Test.YtojinnnckfimhaaXstipendref03Long
namespace Go.Proofs.Ytojinnnckfimhaa.X
open Go.RowKit Go.Proofs.YtojinnnckfimhaaW.PrintWords Go.Proofs.YtojinnnckfimhaaW.PrintLast
set_option linter.unusedVariables false
set_option linter.unusedSimpArgs false

attribute [local go_sem high] eqA23
/-! ### stipendlaw04_PeriodWeeks: function 5 -/
mutual
def stipendlaw04_PeriodWeeks.j0 : Nat → Int → Int → Int → Int → Int → Int → Bool → Int → Int → Int → Int → Int → Int → Int → Int → Int → Int → Int → Int → Int → Int → Int → Int → Int → Int → Option (Bool)
 | 0, _, _, _, _, _, _, _, _, _, _, _, _, _, _, _, _, _, _, _, _, _, _, _, _, _ => none
 | k + 1, x0, x2, x11, x12, x13, x14, x49, x652000, x652001, x652002, x663000, x663001, x663002, x663003, x663004, x663005, x663006, x663007, x663008, x681000, x681001, x681002, x682000, x682001, x682002 => if x49 = true then (if x11 = 1 then (if x14 = 1 then (if (x681000 == 0 && (x681001 == 0 && (x681002 == 0))) = true then (if (x682000 == 0 && (x682001 == 0 && (x682002 == 0))) = true then (if x12 = 0 then (some (x13 == 0)) else (none)) else (none)) else (none)) else (none)) else (none)) else ((date_Between.f k x681000 x681001 x681002 x682000 x682001 x682002).bind fun bt704 => (if (wrap64 ((wrap64 (x11 + x14)) + bt704.2)) = 0 then (if 0 ≤ x0 then (if x0 < 5 then (if x13 = (rd ([0, 52, 26, 13, 12] : List Int) x0) then (stipendlaw04_PeriodWeeks.j1 k x0 x2 bt704.1 (x12 != (mn x2 x13)) x652000 x652001 x652002 x663000 x663001 x663002 x663003 x663004 x663005 x663006 x663007 x663008 x681000 x681001 x681002) else (stipendlaw04_PeriodWeeks.j1 k x0 x2 bt704.1 true x652000 x652001 x652002 x663000 x663001 x663002 x663003 x663004 x663005 x663006 x663007 x663008 x681000 x681001 x681002)) else (none)) else (none)) else (stipendlaw04_PeriodWeeks.j1 k x0 x2 bt704.1 true x652000 x652001 x652002 x663000 x663001 x663002 x663003 x663004 x663005 x663006 x663007 x663008 x681000 x681001 x681002)))
def stipendlaw04_PeriodWeeks.j1 : Nat → Int → Int → Int → Bool → Int → Int → Int → Int → Int → Int → Int → Int → Int → Int → Int → Int → Int → Int → Int → Option (Bool)
 | 0, _, _, _, _, _, _, _, _, _, _, _, _, _, _, _, _, _, _, _ => none
 | k + 1, x0, x2, x15, x99, x652000, x652001, x652002, x663000, x663001, x663002, x663003, x663004, x663005, x663006, x663007, x663008, x681000, x681001, x681002 => if x99 = true then (none) else (if x0 = 4 then (if x681002 = x652002 then (some true) else (if x681002 < x652002 then ((stipendref03_Month.f x681000 x681001).bind fun t706 => (some (x681002 == t706))) else (none))) else (if 0 ≤ x0 then (if x0 < 4 then (if x15 = (wrap64 ((rd ([0, 7, 14, 28] : List Int) x0) - 1)) then (some true) else ((period_Year_Count.f x663000 x663001 x663002 x663003 x663004 x663005 x663006 x663007 x663008).bind fun bt707 => (if x2 = bt707.1 then (some (decide (x15 < (rd ([0, 7, 14, 28] : List Int) x0)))) else (none)))) else (none)) else (none)))
end
def stipendlaw04_PeriodWeeks.f (k : Nat) (a0 : Int) (a1_0 : Int) (a1_1 : Int) (a1_2 : Int) (a2 : Int) : Option (Bool) := (stipendlaw04_cuts.f k).bind fun t652 => (if t652 = true then (if period_New.made a0 a1_0 a1_1 a1_2 = true then ((period_New_A.f k a0 a1_0 a1_1 a1_2).bind fun bt653 => ((period_Year_Span.f k bt653.1 bt653.2.1 bt653.2.2.1 bt653.2.2.2.1 bt653.2.2.2.2.1 bt653.2.2.2.2.2.1 bt653.2.2.2.2.2.2.1 bt653.2.2.2.2.2.2.2.1 bt653.2.2.2.2.2.2.2.2.1 a2).bind fun bt664 => ((period_Year_Part.f k bt664.2.2.2.2.2.2.2.1 bt664.2.2.2.2.2.2.2.2.1 bt664.2.2.2.2.2.2.2.2.2.1 bt664.2.2.2.2.2.2.2.2.2.2.1 bt664.2.2.2.2.2.2.2.2.2.2.2.1 bt664.2.2.2.2.2.2.2.2.2.2.2.2.1 bt664.2.2.2.2.2.2.2.2.2.2.2.2.2.1 bt664.2.2.2.2.2.2.2.2.2.2.2.2.2.2.1 bt664.2.2.2.2.2.2.2.2.2.2.2.2.2.2.2 a2).bind fun bt682 => (if a2 < 1 then (stipendlaw04_PeriodWeeks.j0 k a0 a2 bt664.2.2.2.2.2.2.1 bt682.1 bt682.2.1 bt682.2.2.1 true a1_0 a1_1 a1_2 bt682.2.2.2.1 bt682.2.2.2.2.1 bt682.2.2.2.2.2.1 bt682.2.2.2.2.2.2.1 bt682.2.2.2.2.2.2.2.1 bt682.2.2.2.2.2.2.2.2.1 bt682.2.2.2.2.2.2.2.2.2.1 bt682.2.2.2.2.2.2.2.2.2.2.1 bt682.2.2.2.2.2.2.2.2.2.2.2 bt664.1 bt664.2.1 bt664.2.2.1 bt664.2.2.2.1 bt664.2.2.2.2.1 bt664.2.2.2.2.2.1) else ((period_Year_Count.f bt682.2.2.2.1 bt682.2.2.2.2.1 bt682.2.2.2.2.2.1 bt682.2.2.2.2.2.2.1 bt682.2.2.2.2.2.2.2.1 bt682.2.2.2.2.2.2.2.2.1 bt682.2.2.2.2.2.2.2.2.2.1 bt682.2.2.2.2.2.2.2.2.2.2.1 bt682.2.2.2.2.2.2.2.2.2.2.2).bind fun bt694 => (stipendlaw04_PeriodWeeks.j0 k a0 a2 bt664.2.2.2.2.2.2.1 bt682.1 bt682.2.1 bt682.2.2.1 (decide (a2 > bt694.1)) a1_0 a1_1 a1_2 bt694.2.1 bt694.2.2.1 bt694.2.2.2.1 bt694.2.2.2.2.1 bt694.2.2.2.2.2.1 bt694.2.2.2.2.2.2.1 bt694.2.2.2.2.2.2.2.1 bt694.2.2.2.2.2.2.2.2.1 bt694.2.2.2.2.2.2.2.2.2 bt664.1 bt664.2.1 bt664.2.2.1 bt664.2.2.2.1 bt664.2.2.2.2.1 bt664.2.2.2.2.2.1)))))) else ((period_New_B.f k a0 a1_0 a1_1 a1_2).bind fun t717 => (some true))) else (none))
def stipendlaw04_PeriodWeeks.T14 : Bool × List (List Nat × List Nat) := (true, [([], []), ([0], [0]), ([], []), ([2], [2]), ([1, 3], [1, 3]), ([4], [4]), ([5], [5]), ([6, 5], [5, 6]), ([5], [5]), ([8, 5], [5, 8]), ([7, 9, 5], [5, 7, 9]), ([10, 5, 5], [5, 10]), ([11], [11]), ([12, 11], [11, 12]), ([11], [11]), ([14, 11], [11, 14]), ([11], [11]), ([16, 11], [11, 16]), ([15, 17, 11, 11], [11, 15, 17]), ([13, 18, 11], [11, 13, 18]), ([11, 19, 5], [5, 11, 19]), ([5, 20], [5, 20]), ([21, 18, 0, 1, 2, 3, 4, 5, 6, 7, 8, 9, 10, 11, 12, 13, 14, 15, 16, 17, 18, 19, 20, 21], [21])])
def stipendlaw04_PeriodWeeks.B14 : List Nat := [0, 1, 0, 4, 15, 31, 63, 127, 63, 319, 1023, 2047, 4095, 8191, 4095, 20479, 4095, 69631, 249855, 524287, 1048575, 2097151, 4194303]
theorem stipendlaw04_PeriodWeeks.tab14 : rtab .any (opsOf Try.f5 14) = stipendlaw04_PeriodWeeks.T14 := by kernel_rfl
theorem stipendlaw04_PeriodWeeks.bits14 : waitsOk stipendlaw04_PeriodWeeks.T14.2 stipendlaw04_PeriodWeeks.B14 = true := by kernel_rfl
theorem ints44_5_at {i : Int} (h0 : 0 ≤ i) (h1 : i < 5) (p0 p1 p2 p3 p4 : Int) (W : World) : Sem.run Try.prog (Instr.index 44 (Value.agg #[.int .i64 p0, .int .i64 p1, .int .i64 p2, .int .i64 p3, .int .i64 p4]) (Value.int .i64 i)) W = Result.ok (.int .i64 (rd ([p0, p1, p2, p3, p4] : List Int) i)) W := by
 have hu := Try.underlying44
 have : i = 0 ∨ i = 1 ∨ i = 2 ∨ i = 3 ∨ i = 4 := by omega
 rcases this with rfl | rfl | rfl | rfl | rfl
 ·simp [Instr.index, asIntOf, go_sem, run_underlying hu, rd]
 ·simp [Instr.index, asIntOf, go_sem, run_underlying hu, rd]
 ·simp [Instr.index, asIntOf, go_sem, run_underlying hu, rd]
 ·simp [Instr.index, asIntOf, go_sem, run_underlying hu, rd]
 ·simp [Instr.index, asIntOf, go_sem, run_underlying hu, rd]
theorem ints49_5_at {i : Int} (h0 : 0 ≤ i) (h1 : i < 4) (p0 p1 p2 p3 : Int) (W : World) : Sem.run Try.prog (Instr.index 49 (Value.agg #[.int .i64 p0, .int .i64 p1, .int .i64 p2, .int .i64 p3]) (Value.int .i64 i)) W = Result.ok (.int .i64 (rd ([p0, p1, p2, p3] : List Int) i)) W := by
 have hu := Try.underlying49
 have : i = 0 ∨ i = 1 ∨ i = 2 ∨ i = 3 := by omega
 rcases this with rfl | rfl | rfl | rfl
 ·simp [Instr.index, asIntOf, go_sem, run_underlying hu, rd]
 ·simp [Instr.index, asIntOf, go_sem, run_underlying hu, rd]
 ·simp [Instr.index, asIntOf, go_sem, run_underlying hu, rd]
 ·simp [Instr.index, asIntOf, go_sem, run_underlying hu, rd]
set_option maxHeartbeats 8000000 in
set_option maxRecDepth 100000 in
theorem stipendlaw04_PeriodWeeks.calls (k : Nat) (a0 : Int) (a1_0 : Int) (a1_1 : Int) (a1_2 : Int) (a2 : Int) (r : Bool) (w : World) (h : stipendlaw04_PeriodWeeks.f k a0 a1_0 a1_1 a1_2 a2 = some r) :
  Calls Try.prog 5 #[.int .i64 a0, .agg #[.int .i64 a1_0, .int .i64 a1_1, .int .i64 a1_2], .int .i64 a2] w fun e w' => e = .returned (.bool r) ∧ Below w.heap.size w w' := by
 have hu23 := Try.underlying23
 have hu44 := Try.underlying44
 have hu49 := Try.underlying49
 have HB := a0_ (Below.refl w.heap.size w)
 have H : ((stipendlaw04_cuts.f k).bind fun t652 => (if t652 = true then (if period_New.made a0 a1_0 a1_1 a1_2 = true then ((period_New_A.f k a0 a1_0 a1_1 a1_2).bind fun bt653 => ((period_Year_Span.f k bt653.1 bt653.2.1 bt653.2.2.1 bt653.2.2.2.1 bt653.2.2.2.2.1 bt653.2.2.2.2.2.1 bt653.2.2.2.2.2.2.1 bt653.2.2.2.2.2.2.2.1 bt653.2.2.2.2.2.2.2.2.1 a2).bind fun bt664 => ((period_Year_Part.f k bt664.2.2.2.2.2.2.2.1 bt664.2.2.2.2.2.2.2.2.1 bt664.2.2.2.2.2.2.2.2.2.1 bt664.2.2.2.2.2.2.2.2.2.2.1 bt664.2.2.2.2.2.2.2.2.2.2.2.1 bt664.2.2.2.2.2.2.2.2.2.2.2.2.1 bt664.2.2.2.2.2.2.2.2.2.2.2.2.2.1 bt664.2.2.2.2.2.2.2.2.2.2.2.2.2.2.1 bt664.2.2.2.2.2.2.2.2.2.2.2.2.2.2.2 a2).bind fun bt682 => (if a2 < 1 then (stipendlaw04_PeriodWeeks.j0 k a0 a2 bt664.2.2.2.2.2.2.1 bt682.1 bt682.2.1 bt682.2.2.1 true a1_0 a1_1 a1_2 bt682.2.2.2.1 bt682.2.2.2.2.1 bt682.2.2.2.2.2.1 bt682.2.2.2.2.2.2.1 bt682.2.2.2.2.2.2.2.1 bt682.2.2.2.2.2.2.2.2.1 bt682.2.2.2.2.2.2.2.2.2.1 bt682.2.2.2.2.2.2.2.2.2.2.1 bt682.2.2.2.2.2.2.2.2.2.2.2 bt664.1 bt664.2.1 bt664.2.2.1 bt664.2.2.2.1 bt664.2.2.2.2.1 bt664.2.2.2.2.2.1) else ((period_Year_Count.f bt682.2.2.2.1 bt682.2.2.2.2.1 bt682.2.2.2.2.2.1 bt682.2.2.2.2.2.2.1 bt682.2.2.2.2.2.2.2.1 bt682.2.2.2.2.2.2.2.2.1 bt682.2.2.2.2.2.2.2.2.2.1 bt682.2.2.2.2.2.2.2.2.2.2.1 bt682.2.2.2.2.2.2.2.2.2.2.2).bind fun bt694 => (stipendlaw04_PeriodWeeks.j0 k a0 a2 bt664.2.2.2.2.2.2.1 bt682.1 bt682.2.1 bt682.2.2.1 (decide (a2 > bt694.1)) a1_0 a1_1 a1_2 bt694.2.1 bt694.2.2.1 bt694.2.2.2.1 bt694.2.2.2.2.1 bt694.2.2.2.2.2.1 bt694.2.2.2.2.2.2.1 bt694.2.2.2.2.2.2.2.1 bt694.2.2.2.2.2.2.2.2.1 bt694.2.2.2.2.2.2.2.2.2 bt664.1 bt664.2.1 bt664.2.2.1 bt664.2.2.2.1 bt664.2.2.2.2.1 bt664.2.2.2.2.2.1)))))) else ((period_New_B.f k a0 a1_0 a1_1 a1_2).bind fun t717 => (some true))) else (none))) = some r := h
 clear h
 replace H := oB_ H
 obtain ⟨t652, A40, H⟩ := H
 replace H : (if t652 = true then (if period_New.made a0 a1_0 a1_1 a1_2 = true then ((period_New_A.f k a0 a1_0 a1_1 a1_2).bind fun bt653 => ((period_Year_Span.f k bt653.1 bt653.2.1 bt653.2.2.1 bt653.2.2.2.1 bt653.2.2.2.2.1 bt653.2.2.2.2.2.1 bt653.2.2.2.2.2.2.1 bt653.2.2.2.2.2.2.2.1 bt653.2.2.2.2.2.2.2.2.1 a2).bind fun bt664 => ((period_Year_Part.f k bt664.2.2.2.2.2.2.2.1 bt664.2.2.2.2.2.2.2.2.1 bt664.2.2.2.2.2.2.2.2.2.1 bt664.2.2.2.2.2.2.2.2.2.2.1 bt664.2.2.2.2.2.2.2.2.2.2.2.1 bt664.2.2.2.2.2.2.2.2.2.2.2.2.1 bt664.2.2.2.2.2.2.2.2.2.2.2.2.2.1 bt664.2.2.2.2.2.2.2.2.2.2.2.2.2.2.1 bt664.2.2.2.2.2.2.2.2.2.2.2.2.2.2.2 a2).bind fun bt682 => (if a2 < 1 then (stipendlaw04_PeriodWeeks.j0 k a0 a2 bt664.2.2.2.2.2.2.1 bt682.1 bt682.2.1 bt682.2.2.1 true a1_0 a1_1 a1_2 bt682.2.2.2.1 bt682.2.2.2.2.1 bt682.2.2.2.2.2.1 bt682.2.2.2.2.2.2.1 bt682.2.2.2.2.2.2.2.1 bt682.2.2.2.2.2.2.2.2.1 bt682.2.2.2.2.2.2.2.2.2.1 bt682.2.2.2.2.2.2.2.2.2.2.1 bt682.2.2.2.2.2.2.2.2.2.2.2 bt664.1 bt664.2.1 bt664.2.2.1 bt664.2.2.2.1 bt664.2.2.2.2.1 bt664.2.2.2.2.2.1) else ((period_Year_Count.f bt682.2.2.2.1 bt682.2.2.2.2.1 bt682.2.2.2.2.2.1 bt682.2.2.2.2.2.2.1 bt682.2.2.2.2.2.2.2.1 bt682.2.2.2.2.2.2.2.2.1 bt682.2.2.2.2.2.2.2.2.2.1 bt682.2.2.2.2.2.2.2.2.2.2.1 bt682.2.2.2.2.2.2.2.2.2.2.2).bind fun bt694 => (stipendlaw04_PeriodWeeks.j0 k a0 a2 bt664.2.2.2.2.2.2.1 bt682.1 bt682.2.1 bt682.2.2.1 (decide (a2 > bt694.1)) a1_0 a1_1 a1_2 bt694.2.1 bt694.2.2.1 bt694.2.2.2.1 bt694.2.2.2.2.1 bt694.2.2.2.2.2.1 bt694.2.2.2.2.2.2.1 bt694.2.2.2.2.2.2.2.1 bt694.2.2.2.2.2.2.2.2.1 bt694.2.2.2.2.2.2.2.2.2 bt664.1 bt664.2.1 bt664.2.2.1 bt664.2.2.2.1 bt664.2.2.2.2.1 bt664.2.2.2.2.2.1)))))) else ((period_New_B.f k a0 a1_0 a1_1 a1_2).bind fun t717 => (some true))) else (none)) = some r := H
 have A4 := a0_ A40
 clear A40
 by_cases c5 : t652 = true
 ·subst c5
  have H1 : (if period_New.made a0 a1_0 a1_1 a1_2 = true then ((period_New_A.f k a0 a1_0 a1_1 a1_2).bind fun bt653 => ((period_Year_Span.f k bt653.1 bt653.2.1 bt653.2.2.1 bt653.2.2.2.1 bt653.2.2.2.2.1 bt653.2.2.2.2.2.1 bt653.2.2.2.2.2.2.1 bt653.2.2.2.2.2.2.2.1 bt653.2.2.2.2.2.2.2.2.1 a2).bind fun bt664 => ((period_Year_Part.f k bt664.2.2.2.2.2.2.2.1 bt664.2.2.2.2.2.2.2.2.1 bt664.2.2.2.2.2.2.2.2.2.1 bt664.2.2.2.2.2.2.2.2.2.2.1 bt664.2.2.2.2.2.2.2.2.2.2.2.1 bt664.2.2.2.2.2.2.2.2.2.2.2.2.1 bt664.2.2.2.2.2.2.2.2.2.2.2.2.2.1 bt664.2.2.2.2.2.2.2.2.2.2.2.2.2.2.1 bt664.2.2.2.2.2.2.2.2.2.2.2.2.2.2.2 a2).bind fun bt682 => (if a2 < 1 then (stipendlaw04_PeriodWeeks.j0 k a0 a2 bt664.2.2.2.2.2.2.1 bt682.1 bt682.2.1 bt682.2.2.1 true a1_0 a1_1 a1_2 bt682.2.2.2.1 bt682.2.2.2.2.1 bt682.2.2.2.2.2.1 bt682.2.2.2.2.2.2.1 bt682.2.2.2.2.2.2.2.1 bt682.2.2.2.2.2.2.2.2.1 bt682.2.2.2.2.2.2.2.2.2.1 bt682.2.2.2.2.2.2.2.2.2.2.1 bt682.2.2.2.2.2.2.2.2.2.2.2 bt664.1 bt664.2.1 bt664.2.2.1 bt664.2.2.2.1 bt664.2.2.2.2.1 bt664.2.2.2.2.2.1) else ((period_Year_Count.f bt682.2.2.2.1 bt682.2.2.2.2.1 bt682.2.2.2.2.2.1 bt682.2.2.2.2.2.2.1 bt682.2.2.2.2.2.2.2.1 bt682.2.2.2.2.2.2.2.2.1 bt682.2.2.2.2.2.2.2.2.2.1 bt682.2.2.2.2.2.2.2.2.2.2.1 bt682.2.2.2.2.2.2.2.2.2.2.2).bind fun bt694 => (stipendlaw04_PeriodWeeks.j0 k a0 a2 bt664.2.2.2.2.2.2.1 bt682.1 bt682.2.1 bt682.2.2.1 (decide (a2 > bt694.1)) a1_0 a1_1 a1_2 bt694.2.1 bt694.2.2.1 bt694.2.2.2.1 bt694.2.2.2.2.1 bt694.2.2.2.2.2.1 bt694.2.2.2.2.2.2.1 bt694.2.2.2.2.2.2.2.1 bt694.2.2.2.2.2.2.2.2.1 bt694.2.2.2.2.2.2.2.2.2 bt664.1 bt664.2.1 bt664.2.2.1 bt664.2.2.2.1 bt664.2.2.2.2.1 bt664.2.2.2.2.2.1)))))) else ((period_New_B.f k a0 a1_0 a1_1 a1_2).bind fun t717 => (some true))) = some r := by rw [if_pos rfl] at H; exact H
  clear H
  have H := H1
  clear H1
  by_cases c6 : period_New.made a0 a1_0 a1_1 a1_2 = true
  ·rw [if_pos c6] at H
   have c6b0 : period_New.made a0 a1_0 a1_1 a1_2 = true := c6
   clear c6
   replace H := oB_ H
   obtain ⟨⟨t653, t654, t655, t656, t657, t658, t659, t660, t661, t663⟩, A70, H⟩ := H
   replace H : ((period_Year_Span.f k t653 t654 t655 t656 t657 t658 t659 t660 t661 a2).bind fun bt664 => ((period_Year_Part.f k bt664.2.2.2.2.2.2.2.1 bt664.2.2.2.2.2.2.2.2.1 bt664.2.2.2.2.2.2.2.2.2.1 bt664.2.2.2.2.2.2.2.2.2.2.1 bt664.2.2.2.2.2.2.2.2.2.2.2.1 bt664.2.2.2.2.2.2.2.2.2.2.2.2.1 bt664.2.2.2.2.2.2.2.2.2.2.2.2.2.1 bt664.2.2.2.2.2.2.2.2.2.2.2.2.2.2.1 bt664.2.2.2.2.2.2.2.2.2.2.2.2.2.2.2 a2).bind fun bt682 => (if a2 < 1 then (stipendlaw04_PeriodWeeks.j0 k a0 a2 bt664.2.2.2.2.2.2.1 bt682.1 bt682.2.1 bt682.2.2.1 true a1_0 a1_1 a1_2 bt682.2.2.2.1 bt682.2.2.2.2.1 bt682.2.2.2.2.2.1 bt682.2.2.2.2.2.2.1 bt682.2.2.2.2.2.2.2.1 bt682.2.2.2.2.2.2.2.2.1 bt682.2.2.2.2.2.2.2.2.2.1 bt682.2.2.2.2.2.2.2.2.2.2.1 bt682.2.2.2.2.2.2.2.2.2.2.2 bt664.1 bt664.2.1 bt664.2.2.1 bt664.2.2.2.1 bt664.2.2.2.2.1 bt664.2.2.2.2.2.1) else ((period_Year_Count.f bt682.2.2.2.1 bt682.2.2.2.2.1 bt682.2.2.2.2.2.1 bt682.2.2.2.2.2.2.1 bt682.2.2.2.2.2.2.2.1 bt682.2.2.2.2.2.2.2.2.1 bt682.2.2.2.2.2.2.2.2.2.1 bt682.2.2.2.2.2.2.2.2.2.2.1 bt682.2.2.2.2.2.2.2.2.2.2.2).bind fun bt694 => (stipendlaw04_PeriodWeeks.j0 k a0 a2 bt664.2.2.2.2.2.2.1 bt682.1 bt682.2.1 bt682.2.2.1 (decide (a2 > bt694.1)) a1_0 a1_1 a1_2 bt694.2.1 bt694.2.2.1 bt694.2.2.2.1 bt694.2.2.2.2.1 bt694.2.2.2.2.2.1 bt694.2.2.2.2.2.2.1 bt694.2.2.2.2.2.2.2.1 bt694.2.2.2.2.2.2.2.2.1 bt694.2.2.2.2.2.2.2.2.2 bt664.1 bt664.2.1 bt664.2.2.1 bt664.2.2.2.1 bt664.2.2.2.2.1 bt664.2.2.2.2.2.1))))) = some r := H
   have A7 := a0_ A70
   clear A70
   replace H := oB_ H
   obtain ⟨⟨t664, t665, t666, t667, t668, t669, t670, t671, t672, t673, t674, t675, t676, t677, t678, t679⟩, A80, H⟩ := H
   replace H : ((period_Year_Part.f k t671 t672 t673 t674 t675 t676 t677 t678 t679 a2).bind fun bt682 => (if a2 < 1 then (stipendlaw04_PeriodWeeks.j0 k a0 a2 t670 bt682.1 bt682.2.1 bt682.2.2.1 true a1_0 a1_1 a1_2 bt682.2.2.2.1 bt682.2.2.2.2.1 bt682.2.2.2.2.2.1 bt682.2.2.2.2.2.2.1 bt682.2.2.2.2.2.2.2.1 bt682.2.2.2.2.2.2.2.2.1 bt682.2.2.2.2.2.2.2.2.2.1 bt682.2.2.2.2.2.2.2.2.2.2.1 bt682.2.2.2.2.2.2.2.2.2.2.2 t664 t665 t666 t667 t668 t669) else ((period_Year_Count.f bt682.2.2.2.1 bt682.2.2.2.2.1 bt682.2.2.2.2.2.1 bt682.2.2.2.2.2.2.1 bt682.2.2.2.2.2.2.2.1 bt682.2.2.2.2.2.2.2.2.1 bt682.2.2.2.2.2.2.2.2.2.1 bt682.2.2.2.2.2.2.2.2.2.2.1 bt682.2.2.2.2.2.2.2.2.2.2.2).bind fun bt694 => (stipendlaw04_PeriodWeeks.j0 k a0 a2 t670 bt682.1 bt682.2.1 bt682.2.2.1 (decide (a2 > bt694.1)) a1_0 a1_1 a1_2 bt694.2.1 bt694.2.2.1 bt694.2.2.2.1 bt694.2.2.2.2.1 bt694.2.2.2.2.2.1 bt694.2.2.2.2.2.2.1 bt694.2.2.2.2.2.2.2.1 bt694.2.2.2.2.2.2.2.2.1 bt694.2.2.2.2.2.2.2.2.2 t664 t665 t666 t667 t668 t669)))) = some r := H
   have A8 := a0_ A80
   clear A80
   replace H := oB_ H
   obtain ⟨⟨t682, t683, t684, t685, t686, t687, t688, t689, t690, t691, t692, t693⟩, A90, H⟩ := H
   replace H : (if a2 < 1 then (stipendlaw04_PeriodWeeks.j0 k a0 a2 t670 t682 t683 t684 true a1_0 a1_1 a1_2 t685 t686 t687 t688 t689 t690 t691 t692 t693 t664 t665 t666 t667 t668 t669) else ((period_Year_Count.f t685 t686 t687 t688 t689 t690 t691 t692 t693).bind fun bt694 => (stipendlaw04_PeriodWeeks.j0 k a0 a2 t670 t682 t683 t684 (decide (a2 > bt694.1)) a1_0 a1_1 a1_2 bt694.2.1 bt694.2.2.1 bt694.2.2.2.1 bt694.2.2.2.2.1 bt694.2.2.2.2.2.1 bt694.2.2.2.2.2.2.1 bt694.2.2.2.2.2.2.2.1 bt694.2.2.2.2.2.2.2.2.1 bt694.2.2.2.2.2.2.2.2.2 t664 t665 t666 t667 t668 t669))) = some r := H
   have A9 := a0_ A90
   clear A90
   have HC10 := a0_ H
   clear H
   go_enter Try.func5, Try.ntmps5
   go_upto_region 8 with (first | ((with_reducible refine gate_dst (N := 4) rfl ?_); refine box_event ?hg (N := 4) ?hd (cs := #[.int .i64 a1_0, .int .i64 a1_1, .int .i64 a1_2]) (t := 23) ?hr ?_; (case hd => rfl); (case hg => rfl); (case hr => first | (go_simp; done) | (go_simp; rfl)); intro gb651 hg w11 hbox hb; have n0_ := a0_ (below_step (by repeat (first | (with_reducible first | exact HB.out | apply lA_ | apply lN_ | apply lD_) | exact HB.out)) hb); have n1_ := a0_ (hbox); have n2_ := a0_ ((by rw [hg]; exact (below_size (by repeat (first | (with_reducible first | exact HB.out | apply lA_ | apply lN_ | apply lD_) | exact HB.out))) : w.heap.size ≤ gb651)); have n3_ := a0_ ((by rw [hg]; exact (below_size (by repeat (first | (with_reducible first | exact HB.out | apply lA_ | apply lN_ | apply lD_) | exact HB.out))) : w.heap.size ≤ gb651)); clear HB; have HB := n0_; have BK651 := n1_; have GW651 := n2_; have GE651 := n3_; clear n0_ n1_ n2_ n3_; clear hb hbox hg) | ((with_reducible refine gate_callee (f := 20) rfl ?_); refine goesL_ (some 18) rfl rfl Try.func20 (by kernel_rfl) rfl #[] rfl (by (try simp only [List.map_toArray, List.map_cons, List.map_nil]); first | done | rfl) ?_; (with_reducible refine (stipendlaw04_cuts.calls k  true _ A4.out).mono ?_); rintro e w12 ⟨rfl, hb⟩; refine ⟨_, rfl, ?_⟩; have n0_ := a0_ (bB_ (g := gb651) (o := .cells #[.int .i64 a1_0, .int .i64 a1_1, .int .i64 a1_2] 23 (0, 0)) (by (with_reducible repeat first | apply bN_ | apply bD_ | apply bA_); exact BK651.out) hb); have n1_ := a0_ (below_step (by repeat (first | (with_reducible first | exact HB.out | apply lA_ | apply lN_ | apply lD_ | refine lS_ ?_ GE651.out) | exact HB.out)) hb); clear BK651; clear HB; have BK651 := n0_; have HB := n1_; clear n0_ n1_; (try clear hb); (try clear hb2); (try clear hk); (try clear hi); have hcz13_0 : w12.cell? ⟨gb651, 0, none⟩ = some (.int .i64 a1_0) := (bC_ BK651.out 0).trans rfl; have hcz13_1 : w12.cell? ⟨gb651, 1, none⟩ = some (.int .i64 a1_1) := (bC_ BK651.out 1).trans rfl; have hcz13_2 : w12.cell? ⟨gb651, 2, none⟩ = some (.int .i64 a1_2) := (bC_ BK651.out 2).trans rfl; have hfz13_0 := bF_ BK651.out 0; have hfz13_1 := bF_ BK651.out 1; have hfz13_2 := bF_ BK651.out 2) | ((with_reducible refine gate_callee (f := 12) rfl ?_); refine goesL_ (some 23) rfl rfl Try.func12 (by kernel_rfl) rfl #[.int .i64 a0, .agg #[.int .i64 a1_0, .int .i64 a1_1, .int .i64 a1_2]] rfl (by (try simp only [List.map_toArray, List.map_cons, List.map_nil]); first | done | rfl) ?_; (with_reducible refine (period_New_A.calls k a0 a1_0 a1_1 a1_2 t653 t654 t655 t656 t657 t658 t659 t660 t661 t663 w _ ?side1 A7.out).mono ?_); (case side1 => repeat (first | (with_reducible first | exact HB.out | apply lA_ | apply lN_ | apply lD_ | refine lS_ ?_ GE651.out) | exact HB.out)); rintro e w14 ⟨g662, rfl, hi, hb, hb2, hge⟩; refine ⟨_, rfl, ?_⟩; have n0_ := a0_ (bB_ (g := gb651) (o := .cells #[.int .i64 a1_0, .int .i64 a1_1, .int .i64 a1_2] 23 (0, 0)) (by (with_reducible repeat first | apply bN_ | apply bD_ | apply bA_); exact BK651.out) hb2); have n1_ := a0_ (hb); have n2_ := a0_ (hi); have n3_ := a0_ (IsS62.ne_blk hi (bB_ (g := gb651) (o := .cells #[.int .i64 a1_0, .int .i64 a1_1, .int .i64 a1_2] 23 (0, 0)) (by (with_reducible repeat first | apply bN_ | apply bD_ | apply bA_); exact BK651.out) hb2) (by decide)); have n4_ := a0_ (Ne.symm (IsS62.ne_blk hi (bB_ (g := gb651) (o := .cells #[.int .i64 a1_0, .int .i64 a1_1, .int .i64 a1_2] 23 (0, 0)) (by (with_reducible repeat first | apply bN_ | apply bD_ | apply bA_); exact BK651.out) hb2) (by decide))); clear BK651; clear HB; have BK651 := n0_; have HB := n1_; have HI662 := n2_; have NB662_651 := n3_; have NB651_662 := n4_; clear n0_ n1_ n2_ n3_ n4_; (try clear hb); (try clear hb2); (try clear hk); (try clear hi)) | ((with_reducible refine gate_callee (f := 15) rfl ?_); refine goesL_ (some 31) rfl rfl Try.func15 (by kernel_rfl) rfl #[.pointer (some ⟨g662, 0, none⟩), .int .i64 a2] rfl (by (try simp only [List.map_toArray, List.map_cons, List.map_nil]); first | done | rfl) ?_; (with_reducible refine (period_Year_Span.calls k g662 t653 t654 t655 t656 t657 t658 t659 t660 t661 a2 t664 t665 t666 t667 t668 t669 t670 t671 t672 t673 t674 t675 t676 t677 t678 t679 w _ ?side1 ?side2 A8.out).mono ?_); (case side1 => repeat (first | (with_reducible first | exact HI662.out | apply sA_ | apply sN_ | apply sD_ | refine sF_ ?_ NB662_651.out _) | exact HI662.out)); (case side2 => repeat (first | (with_reducible first | exact HB.out | apply lA_ | apply lN_ | apply lD_ | refine lS_ ?_ (sG_ HI662.out) | refine lS_ ?_ GE651.out) | exact HB.out)); rintro e w15 ⟨rfl, hi, hb, hk⟩; refine ⟨_, rfl, ?_⟩; have n0_ := a0_ (KeepBut.blk hk (g' := gb651) (o := .cells #[.int .i64 a1_0, .int .i64 a1_1, .int .i64 a1_2] 23 (0, 0)) (by (with_reducible repeat first | apply bN_ | apply bD_ | apply bA_); exact BK651.out) NB651_662.out (by simp)); have n1_ := a0_ (hb); have n2_ := a0_ (hi); clear BK651; clear HB; clear HI662; have BK651 := n0_; have HB := n1_; have HI662 := n2_; clear n0_ n1_ n2_; (try clear hb); (try clear hb2); (try clear hk); (try clear hi)) | ((with_reducible refine gate_dst (N := 9) rfl ?_); refine box_event ?hg (N := 9) ?hd (cs := #[.int .i64 0, .int .i64 0, .int .i64 0]) (t := 23) ?hr ?_; (case hd => rfl); (case hg => rfl); (case hr => first | (go_simp; done) | (go_simp; rfl)); intro gb680 hg w16 hbox hb; have n0_ := a0_ (bB_ (g := gb651) (o := .cells #[.int .i64 a1_0, .int .i64 a1_1, .int .i64 a1_2] 23 (0, 0)) (by (with_reducible repeat first | apply bN_ | apply bD_ | apply bA_); exact BK651.out) hb); have n1_ := a0_ (IsS62.below (by repeat (first | (with_reducible first | exact HI662.out | apply sA_ | apply sN_ | apply sD_ | refine sF_ ?_ NB662_651.out _) | exact HI662.out)) hb); have n2_ := a0_ (below_step (by repeat (first | (with_reducible first | exact HB.out | apply lA_ | apply lN_ | apply lD_ | refine lS_ ?_ (sG_ HI662.out) | refine lS_ ?_ GE651.out) | exact HB.out)) hb); have n3_ := a0_ (hbox); have n4_ := a0_ ((by rw [hg]; exact (below_size (by repeat (first | (with_reducible first | exact HB.out | apply lA_ | apply lN_ | apply lD_ | refine lS_ ?_ (sG_ HI662.out) | refine lS_ ?_ GE651.out) | exact HB.out))) : w.heap.size ≤ gb680)); have n5_ := a0_ ((by rw [hg]; exact (below_size (by repeat (first | (with_reducible first | exact HB.out | apply lA_ | apply lN_ | apply lD_ | refine lS_ ?_ (sG_ HI662.out) | refine lS_ ?_ GE651.out) | exact HB.out))) : w.heap.size ≤ gb680)); have n6_ := a0_ ((by rw [hg]; exact Nat.ne_of_lt (blk_lt (g := gb651) (o := .cells #[.int .i64 a1_0, .int .i64 a1_1, .int .i64 a1_2] 23 (0, 0)) (by (with_reducible repeat first | apply bN_ | apply bD_ | apply bA_); exact BK651.out)) : gb651 ≠ gb680)); have n7_ := a0_ ((by rw [hg]; exact Nat.ne_of_gt (blk_lt (g := gb651) (o := .cells #[.int .i64 a1_0, .int .i64 a1_1, .int .i64 a1_2] 23 (0, 0)) (by (with_reducible repeat first | apply bN_ | apply bD_ | apply bA_); exact BK651.out)) : gb680 ≠ gb651)); have n8_ := a0_ ((by rw [hg]; exact Nat.ne_of_lt (IsS62.lt (show IsS62 w _ g662 t671 t672 t673 t674 t675 t676 t677 t678 t679 from by repeat (first | (with_reducible first | exact HI662.out | apply sA_ | apply sN_ | apply sD_ | refine sF_ ?_ NB662_651.out _) | exact HI662.out))) : g662 ≠ gb680)); have n9_ := a0_ ((by rw [hg]; exact Nat.ne_of_gt (IsS62.lt (show IsS62 w _ g662 t671 t672 t673 t674 t675 t676 t677 t678 t679 from by repeat (first | (with_reducible first | exact HI662.out | apply sA_ | apply sN_ | apply sD_ | refine sF_ ?_ NB662_651.out _) | exact HI662.out))) : gb680 ≠ g662)); clear BK651; clear HI662; clear HB; have BK651 := n0_; have HI662 := n1_; have HB := n2_; have BK680 := n3_; have GW680 := n4_; have GE680 := n5_; have NB651_680 := n6_; have NB680_651 := n7_; have NB662_680 := n8_; have NB680_662 := n9_; clear n0_ n1_ n2_ n3_ n4_ n5_ n6_ n7_ n8_ n9_; clear hb hbox hg) | ((with_reducible refine gate_dst (N := 10) rfl ?_); refine box_event ?hg (N := 10) ?hd (cs := #[.int .i64 0, .int .i64 0, .int .i64 0]) (t := 23) ?hr ?_; (case hd => rfl); (case hg => rfl); (case hr => first | (go_simp; done) | (go_simp; rfl)); intro gb681 hg w17 hbox hb; have n0_ := a0_ (bB_ (g := gb651) (o := .cells #[.int .i64 a1_0, .int .i64 a1_1, .int .i64 a1_2] 23 (0, 0)) (by (with_reducible repeat first | apply bN_ | apply bD_ | apply bA_); exact BK651.out) hb); have n1_ := a0_ (IsS62.below (by repeat (first | (with_reducible first | exact HI662.out | apply sA_ | apply sN_ | apply sD_ | refine sF_ ?_ NB662_651.out _ | refine sF_ ?_ NB662_680.out _) | exact HI662.out)) hb); have n2_ := a0_ (bB_ (g := gb680) (o := .cells #[.int .i64 0, .int .i64 0, .int .i64 0] 23 (0, 0)) (by (with_reducible repeat first | apply bN_ | apply bD_ | apply bA_); exact BK680.out) hb); have n3_ := a0_ (below_step (by repeat (first | (with_reducible first | exact HB.out | apply lA_ | apply lN_ | apply lD_ | refine lS_ ?_ (sG_ HI662.out) | refine lS_ ?_ GE651.out | refine lS_ ?_ GE680.out) | exact HB.out)) hb); have n4_ := a0_ (hbox); have n5_ := a0_ ((by rw [hg]; exact (below_size (by repeat (first | (with_reducible first | exact HB.out | apply lA_ | apply lN_ | apply lD_ | refine lS_ ?_ (sG_ HI662.out) | refine lS_ ?_ GE651.out | refine lS_ ?_ GE680.out) | exact HB.out))) : w.heap.size ≤ gb681)); have n6_ := a0_ ((by rw [hg]; exact (below_size (by repeat (first | (with_reducible first | exact HB.out | apply lA_ | apply lN_ | apply lD_ | refine lS_ ?_ (sG_ HI662.out) | refine lS_ ?_ GE651.out | refine lS_ ?_ GE680.out) | exact HB.out))) : w.heap.size ≤ gb681)); have n7_ := a0_ ((by rw [hg]; exact Nat.ne_of_lt (blk_lt (g := gb651) (o := .cells #[.int .i64 a1_0, .int .i64 a1_1, .int .i64 a1_2] 23 (0, 0)) (by (with_reducible repeat first | apply bN_ | apply bD_ | apply bA_); exact BK651.out)) : gb651 ≠ gb681)); have n8_ := a0_ ((by rw [hg]; exact Nat.ne_of_gt (blk_lt (g := gb651) (o := .cells #[.int .i64 a1_0, .int .i64 a1_1, .int .i64 a1_2] 23 (0, 0)) (by (with_reducible repeat first | apply bN_ | apply bD_ | apply bA_); exact BK651.out)) : gb681 ≠ gb651)); have n9_ := a0_ ((by rw [hg]; exact Nat.ne_of_lt (blk_lt (g := gb680) (o := .cells #[.int .i64 0, .int .i64 0, .int .i64 0] 23 (0, 0)) (by (with_reducible repeat first | apply bN_ | apply bD_ | apply bA_); exact BK680.out)) : gb680 ≠ gb681)); have n10_ := a0_ ((by rw [hg]; exact Nat.ne_of_gt (blk_lt (g := gb680) (o := .cells #[.int .i64 0, .int .i64 0, .int .i64 0] 23 (0, 0)) (by (with_reducible repeat first | apply bN_ | apply bD_ | apply bA_); exact BK680.out)) : gb681 ≠ gb680)); have n11_ := a0_ ((by rw [hg]; exact Nat.ne_of_lt (IsS62.lt (show IsS62 w _ g662 t671 t672 t673 t674 t675 t676 t677 t678 t679 from by repeat (first | (with_reducible first | exact HI662.out | apply sA_ | apply sN_ | apply sD_ | refine sF_ ?_ NB662_651.out _ | refine sF_ ?_ NB662_680.out _) | exact HI662.out))) : g662 ≠ gb681)); have n12_ := a0_ ((by rw [hg]; exact Nat.ne_of_gt (IsS62.lt (show IsS62 w _ g662 t671 t672 t673 t674 t675 t676 t677 t678 t679 from by repeat (first | (with_reducible first | exact HI662.out | apply sA_ | apply sN_ | apply sD_ | refine sF_ ?_ NB662_651.out _ | refine sF_ ?_ NB662_680.out _) | exact HI662.out))) : gb681 ≠ g662)); clear BK651; clear HI662; clear BK680; clear HB; have BK651 := n0_; have HI662 := n1_; have BK680 := n2_; have HB := n3_; have BK681 := n4_; have GW681 := n5_; have GE681 := n6_; have NB651_681 := n7_; have NB681_651 := n8_; have NB680_681 := n9_; have NB681_680 := n10_; have NB662_681 := n11_; have NB681_662 := n12_; clear n0_ n1_ n2_ n3_ n4_ n5_ n6_ n7_ n8_ n9_ n10_ n11_ n12_; clear hb hbox hg; have hnb18 := NB680_651.out; have hnc18 := NB651_680.out; have hnb19 := NB680_681.out; have hnc19 := NB681_680.out; have hnb20 := NB680_662.out; have hnc20 := NB662_680.out; have hcz21_0 : w17.cell? ⟨gb680, 0, none⟩ = some (.int .i64 0) := (bC_ BK680.out 0).trans rfl; have hcz21_1 : w17.cell? ⟨gb680, 1, none⟩ = some (.int .i64 0) := (bC_ BK680.out 1).trans rfl; have hcz21_2 : w17.cell? ⟨gb680, 2, none⟩ = some (.int .i64 0) := (bC_ BK680.out 2).trans rfl; have hfz21_0 := bF_ BK680.out 0; have hfz21_1 := bF_ BK680.out 1; have hfz21_2 := bF_ BK680.out 2; have hnb22 := NB681_651.out; have hnc22 := NB651_681.out; have hnb23 := NB681_662.out; have hnc23 := NB662_681.out; have hcz24_0 : w17.cell? ⟨gb681, 0, none⟩ = some (.int .i64 0) := (bC_ BK681.out 0).trans rfl; have hcz24_1 : w17.cell? ⟨gb681, 1, none⟩ = some (.int .i64 0) := (bC_ BK681.out 1).trans rfl; have hcz24_2 : w17.cell? ⟨gb681, 2, none⟩ = some (.int .i64 0) := (bC_ BK681.out 2).trans rfl; have hfz24_0 := bF_ BK681.out 0; have hfz24_1 := bF_ BK681.out 1; have hfz24_2 := bF_ BK681.out 2) | ((with_reducible refine gate_callee (f := 25) rfl ?_); refine goesL_ (some 38) rfl rfl Try.func25 (by kernel_rfl) rfl #[.pointer (some ⟨g662, 0, none⟩), .int .i64 a2] rfl (by (try simp only [List.map_toArray, List.map_cons, List.map_nil]); first | done | rfl) ?_; (with_reducible refine (period_Year_Part.calls k g662 t671 t672 t673 t674 t675 t676 t677 t678 t679 a2 t682 t683 t684 t685 t686 t687 t688 t689 t690 t691 t692 t693 w _ ?side1 ?side2 A9.out).mono ?_); (case side1 => repeat (first | (with_reducible first | exact HI662.out | apply sA_ | apply sN_ | apply sD_ | refine sF_ ?_ NB662_651.out _ | refine sF_ ?_ NB662_680.out _ | refine sF_ ?_ NB662_681.out _) | exact HI662.out)); (case side2 => repeat (first | (with_reducible first | exact HB.out | apply lA_ | apply lN_ | apply lD_ | refine lS_ ?_ (sG_ HI662.out) | refine lS_ ?_ GE651.out | refine lS_ ?_ GE680.out | refine lS_ ?_ GE681.out) | exact HB.out)); rintro e w25 ⟨rfl, hi, hb, hk⟩; refine ⟨_, rfl, ?_⟩; have n0_ := a0_ (KeepBut.blk hk (g' := gb651) (o := .cells #[.int .i64 a1_0, .int .i64 a1_1, .int .i64 a1_2] 23 (0, 0)) (by (with_reducible repeat first | apply bN_ | apply bD_ | apply bA_); refine blk_far ?_ NB651_681.out _; (with_reducible repeat first | apply bN_ | apply bD_ | apply bA_); refine blk_far ?_ NB651_681.out _; (with_reducible repeat first | apply bN_ | apply bD_ | apply bA_); refine blk_far ?_ NB651_681.out _; (with_reducible repeat first | apply bN_ | apply bD_ | apply bA_); refine blk_far ?_ NB651_680.out _; (with_reducible repeat first | apply bN_ | apply bD_ | apply bA_); refine blk_far ?_ NB651_680.out _; (with_reducible repeat first | apply bN_ | apply bD_ | apply bA_); refine blk_far ?_ NB651_680.out _; (with_reducible repeat first | apply bN_ | apply bD_ | apply bA_); exact BK651.out) NB651_662.out (by simp)); have n1_ := a0_ (KeepBut.blk hk (g' := gb680) (o := .cells #[.int .i64 t664, .int .i64 t665, .int .i64 t666] 23 (0, 0)) (by (with_reducible repeat first | apply bN_ | apply bD_ | apply bA_); refine blk_far ?_ NB680_681.out _; (with_reducible repeat first | apply bN_ | apply bD_ | apply bA_); refine blk_far ?_ NB680_681.out _; (with_reducible repeat first | apply bN_ | apply bD_ | apply bA_); refine blk_far ?_ NB680_681.out _; (with_reducible repeat first | apply bN_ | apply bD_ | apply bA_); refine blk_put (cs := #[.int .i64 t664, .int .i64 t665, .int .i64 0]) ?_ 2 _ rfl; (with_reducible repeat first | apply bN_ | apply bD_ | apply bA_); refine blk_put (cs := #[.int .i64 t664, .int .i64 0, .int .i64 0]) ?_ 1 _ rfl; (with_reducible repeat first | apply bN_ | apply bD_ | apply bA_); refine blk_put (cs := #[.int .i64 0, .int .i64 0, .int .i64 0]) ?_ 0 _ rfl; (with_reducible repeat first | apply bN_ | apply bD_ | apply bA_); exact BK680.out) NB680_662.out (by simp)); have n2_ := a0_ (KeepBut.blk hk (g' := gb681) (o := .cells #[.int .i64 t667, .int .i64 t668, .int .i64 t669] 23 (0, 0)) (by (with_reducible repeat first | apply bN_ | apply bD_ | apply bA_); refine blk_put (cs := #[.int .i64 t667, .int .i64 t668, .int .i64 0]) ?_ 2 _ rfl; (with_reducible repeat first | apply bN_ | apply bD_ | apply bA_); refine blk_put (cs := #[.int .i64 t667, .int .i64 0, .int .i64 0]) ?_ 1 _ rfl; (with_reducible repeat first | apply bN_ | apply bD_ | apply bA_); refine blk_put (cs := #[.int .i64 0, .int .i64 0, .int .i64 0]) ?_ 0 _ rfl; (with_reducible repeat first | apply bN_ | apply bD_ | apply bA_); refine blk_far ?_ NB681_680.out _; (with_reducible repeat first | apply bN_ | apply bD_ | apply bA_); refine blk_far ?_ NB681_680.out _; (with_reducible repeat first | apply bN_ | apply bD_ | apply bA_); refine blk_far ?_ NB681_680.out _; (with_reducible repeat first | apply bN_ | apply bD_ | apply bA_); exact BK681.out) NB681_662.out (by simp)); have n3_ := a0_ (hb); have n4_ := a0_ (hi); clear BK651; clear BK680; clear BK681; clear HB; clear HI662; have BK651 := n0_; have BK680 := n1_; have BK681 := n2_; have HB := n3_; have HI662 := n4_; clear n0_ n1_ n2_ n3_ n4_; (try clear hb); (try clear hb2); (try clear hk); (try clear hi)))
   (try simp only [Act.put, zA_, zB_, zC_])
   go_cut [49] (fun v49 wc => ∃ (kq : Nat) (x49_9 : Bool) (x663000_9 : Int) (x663001_9 : Int) (x663002_9 : Int) (x663003_9 : Int) (x663004_9 : Int) (x663005_9 : Int) (x663006_9 : Int) (x663007_9 : Int) (x663008_9 : Int), v49 = .bool x49_9 ∧ Aside0 (stipendlaw04_PeriodWeeks.j0 kq a0 a2 t670 t682 t683 t684 x49_9 a1_0 a1_1 a1_2 x663000_9 x663001_9 x663002_9 x663003_9 x663004_9 x663005_9 x663006_9 x663007_9 x663008_9 t664 t665 t666 t667 t668 t669 = some r) ∧ Aside0 (kq ≤ k) ∧ Aside0 (wc.heap[gb651]? = some (.cells #[.int .i64 a1_0, .int .i64 a1_1, .int .i64 a1_2] 23 (0, 0))) ∧ Aside0 (wc.heap[gb680]? = some (.cells #[.int .i64 t664, .int .i64 t665, .int .i64 t666] 23 (0, 0))) ∧ Aside0 (wc.heap[gb681]? = some (.cells #[.int .i64 t667, .int .i64 t668, .int .i64 t669] 23 (0, 0))) ∧ Aside0 (IsS62 w wc g662 x663000_9 x663001_9 x663002_9 x663003_9 x663004_9 x663005_9 x663006_9 x663007_9 x663008_9) ∧ Aside0 (Below w.heap.size w wc))
   case first =>
    have H := HC10.out
    clear HC10
    by_cases c26 : a2 < 1
    ·rw [if_pos c26] at H
     have c26b0 : decide (a2 < 1) = true := decide_eq_true c26
     clear c26
     (first | rw [c26b0] | (simp only [i64_w, i32_w]; rw [c26b0]) | skip)
     have H' := a0_ H
     clear H
     go_wp2
     go_meet
     case rel => exact ⟨_, (true), (t685), (t686), (t687), (t688), (t689), (t690), (t691), (t692), (t693), (by first | rfl | (simp; done) | (simp [*]; done)), H', ⟨by first | omega | exact Nat.le_refl _⟩, ⟨by (with_reducible repeat first | apply bN_ | apply bD_ | apply bA_); exact BK651.out⟩, ⟨by (with_reducible repeat first | apply bN_ | apply bD_ | apply bA_); exact BK680.out⟩, ⟨by (with_reducible repeat first | apply bN_ | apply bD_ | apply bA_); exact BK681.out⟩, ⟨by repeat (first | (with_reducible first | exact HI662.out | apply sA_ | apply sN_ | apply sD_ | refine sF_ ?_ NB662_651.out _ | refine sF_ ?_ NB662_680.out _ | refine sF_ ?_ NB662_681.out _) | exact HI662.out)⟩, ⟨by repeat (first | (with_reducible first | exact HB.out | apply lA_ | apply lN_ | apply lD_ | refine lS_ ?_ (sG_ HI662.out) | refine lS_ ?_ GE651.out | refine lS_ ?_ GE680.out | refine lS_ ?_ GE681.out) | exact HB.out)⟩⟩
    ·rw [if_neg c26] at H
     have c26b0 : decide (a2 < 1) = false := decide_eq_false c26
     clear c26
     (first | rw [c26b0] | (simp only [i64_w, i32_w]; rw [c26b0]) | skip)
     replace H := oB_ H
     obtain ⟨⟨t694, t695, t696, t697, t698, t699, t700, t701, t702, t703⟩, A270, H⟩ := H
     replace H : (stipendlaw04_PeriodWeeks.j0 k a0 a2 t670 t682 t683 t684 (decide (a2 > t694)) a1_0 a1_1 a1_2 t695 t696 t697 t698 t699 t700 t701 t702 t703 t664 t665 t666 t667 t668 t669) = some r := H
     have A27 := a0_ A270
     clear A270
     have H' := a0_ H
     clear H
     go_wp2_with (first | (go_at_call 24; (with_reducible refine (period_Year_Count.calls g662 t685 t686 t687 t688 t689 t690 t691 t692 t693 t694 t695 t696 t697 t698 t699 t700 t701 t702 t703 w _ ?side1 ?side2 A27.out).mono ?_); (case side1 => repeat (first | (with_reducible first | exact HI662.out | apply sA_ | apply sN_ | apply sD_ | refine sF_ ?_ NB662_651.out _ | refine sF_ ?_ NB662_680.out _ | refine sF_ ?_ NB662_681.out _) | exact HI662.out)); (case side2 => repeat (first | (with_reducible first | exact HB.out | apply lA_ | apply lN_ | apply lD_ | refine lS_ ?_ (sG_ HI662.out) | refine lS_ ?_ GE651.out | refine lS_ ?_ GE680.out | refine lS_ ?_ GE681.out) | exact HB.out)); rintro e w28 ⟨rfl, hi, hb, hk⟩; have n0_ := a0_ (KeepBut.blk hk (g' := gb651) (o := .cells #[.int .i64 a1_0, .int .i64 a1_1, .int .i64 a1_2] 23 (0, 0)) (by (with_reducible repeat first | apply bN_ | apply bD_ | apply bA_); exact BK651.out) NB651_662.out (by simp)); have n1_ := a0_ (KeepBut.blk hk (g' := gb680) (o := .cells #[.int .i64 t664, .int .i64 t665, .int .i64 t666] 23 (0, 0)) (by (with_reducible repeat first | apply bN_ | apply bD_ | apply bA_); exact BK680.out) NB680_662.out (by simp)); have n2_ := a0_ (KeepBut.blk hk (g' := gb681) (o := .cells #[.int .i64 t667, .int .i64 t668, .int .i64 t669] 23 (0, 0)) (by (with_reducible repeat first | apply bN_ | apply bD_ | apply bA_); exact BK681.out) NB681_662.out (by simp)); have n3_ := a0_ (hb); have n4_ := a0_ (hi); clear BK651; clear BK680; clear BK681; clear HB; clear HI662; have BK651 := n0_; have BK680 := n1_; have BK681 := n2_; have HB := n3_; have HI662 := n4_; clear n0_ n1_ n2_ n3_ n4_; (try clear hb); (try clear hb2); (try clear hk); (try clear hi)))
     go_meet
     case rel => exact ⟨_, (decide (a2 > t694)), (t695), (t696), (t697), (t698), (t699), (t700), (t701), (t702), (t703), (by first | rfl | (simp; done) | (simp [*]; done)), H', ⟨by first | omega | exact Nat.le_refl _⟩, ⟨by (with_reducible repeat first | apply bN_ | apply bD_ | apply bA_); exact BK651.out⟩, ⟨by (with_reducible repeat first | apply bN_ | apply bD_ | apply bA_); exact BK680.out⟩, ⟨by (with_reducible repeat first | apply bN_ | apply bD_ | apply bA_); exact BK681.out⟩, ⟨by repeat (first | (with_reducible first | exact HI662.out | apply sA_ | apply sN_ | apply sD_ | refine sF_ ?_ NB662_651.out _ | refine sF_ ?_ NB662_680.out _ | refine sF_ ?_ NB662_681.out _) | exact HI662.out)⟩, ⟨by repeat (first | (with_reducible first | exact HB.out | apply lA_ | apply lN_ | apply lD_ | refine lS_ ?_ (sG_ HI662.out) | refine lS_ ?_ GE651.out | refine lS_ ?_ GE680.out | refine lS_ ?_ GE681.out) | exact HB.out)⟩⟩
   case rest =>
    clear HC10
    try clear p2
    try clear c5
    try clear c6
    try clear c6b0
    try clear c26
    try clear c26b0
    try clear hcz13_0
    try clear hcz13_1
    try clear hcz13_2
    try clear hcz21_0
    try clear hcz21_1
    try clear hcz21_2
    try clear hcz24_0
    try clear hcz24_1
    try clear hcz24_2
    try clear hfz13_0
    try clear hfz13_1
    try clear hfz13_2
    try clear hfz21_0
    try clear hfz21_1
    try clear hfz21_2
    try clear hfz24_0
    try clear hfz24_1
    try clear hfz24_2
    obtain ⟨kq, x49_9, x663000_9, x663001_9, x663002_9, x663003_9, x663004_9, x663005_9, x663006_9, x663007_9, x663008_9, rfl, HA, HJ9, BK651, BK680, BK681, HI662, HB⟩ := hcut
    cases kq with
    | zero => exact absurd HA.out (by simp [stipendlaw04_PeriodWeeks.j0])
    | succ kj9 =>
     have H := HA.out
     clear HA
     simp only [stipendlaw04_PeriodWeeks.j0] at H
     by_cases c29 : x49_9 = true
     ·subst c29
      have H1 : (if t670 = 1 then (if t684 = 1 then (if (t664 == 0 && (t665 == 0 && (t666 == 0))) = true then (if (t667 == 0 && (t668 == 0 && (t669 == 0))) = true then (if t682 = 0 then (some (t683 == 0)) else (none)) else (none)) else (none)) else (none)) else (none)) = some r := by rw [if_pos rfl] at H; exact H
      clear H
      have H := H1
      clear H1
      by_cases c30 : t670 = 1
      ·rw [if_pos c30] at H
       have c30b0 : (t670 == 1) = true := beq_iff_eq.mpr c30
       have c30b1 : (t670 != 1) = false := bne_eq_false_iff_eq.mpr c30
       clear c30
       by_cases c31 : t684 = 1
       ·rw [if_pos c31] at H
        have c31b0 : (t684 == 1) = true := beq_iff_eq.mpr c31
        have c31b1 : (t684 != 1) = false := bne_eq_false_iff_eq.mpr c31
        clear c31
        by_cases c32 : (t664 == 0 && (t665 == 0 && (t666 == 0))) = true
        ·rw [if_pos c32] at H
         have c32b0 : (t664 == 0 && (t665 == 0 && (t666 == 0))) = true := c32
         (try (have c32b1 : decide (t664 = 0 && (t665 == 0 && (t666 == 0))) = true := by simpa using c32))
         (try (have c32b2 : (t664 == 0 && (t665 == 0 && (t666 == 0))) = true := by simpa using c32))
         clear c32
         by_cases c33 : (t667 == 0 && (t668 == 0 && (t669 == 0))) = true
         ·rw [if_pos c33] at H
          have c33b0 : (t667 == 0 && (t668 == 0 && (t669 == 0))) = true := c33
          (try (have c33b1 : decide (t667 = 0 && (t668 == 0 && (t669 == 0))) = true := by simpa using c33))
          (try (have c33b2 : (t667 == 0 && (t668 == 0 && (t669 == 0))) = true := by simpa using c33))
          clear c33
          by_cases c34 : t682 = 0
          ·rw [if_pos c34] at H
           have c34b0 : (t682 == 0) = true := beq_iff_eq.mpr c34
           have c34b1 : (t682 != 0) = false := bne_eq_false_iff_eq.mpr c34
           clear c34
           obtain rfl := Option.some.inj H
           have hnb35 := NB680_651.out
           have hnc35 := NB651_680.out
           have hnb36 := NB680_681.out
           have hnc36 := NB681_680.out
           have hnb37 := NB680_662.out
           have hnc37 := NB662_680.out
           have hcz38_0 : wc.cell? ⟨gb680, 0, none⟩ = some (.int .i64 t664) := (bC_ BK680.out 0).trans rfl
           have hcz38_1 : wc.cell? ⟨gb680, 1, none⟩ = some (.int .i64 t665) := (bC_ BK680.out 1).trans rfl
           have hcz38_2 : wc.cell? ⟨gb680, 2, none⟩ = some (.int .i64 t666) := (bC_ BK680.out 2).trans rfl
           have hfz38_0 := bF_ BK680.out 0
           have hfz38_1 := bF_ BK680.out 1
           have hfz38_2 := bF_ BK680.out 2
           have hnb39 := NB681_651.out
           have hnc39 := NB651_681.out
           have hnb40 := NB681_662.out
           have hnc40 := NB662_681.out
           have hcz41_0 : wc.cell? ⟨gb681, 0, none⟩ = some (.int .i64 t667) := (bC_ BK681.out 0).trans rfl
           have hcz41_1 : wc.cell? ⟨gb681, 1, none⟩ = some (.int .i64 t668) := (bC_ BK681.out 1).trans rfl
           have hcz41_2 : wc.cell? ⟨gb681, 2, none⟩ = some (.int .i64 t669) := (bC_ BK681.out 2).trans rfl
           have hfz41_0 := bF_ BK681.out 0
           have hfz41_1 := bF_ BK681.out 1
           have hfz41_2 := bF_ BK681.out 2
           go_wp2
           go_ret
           exact ⟨by first | rfl | (simp [errW_none, errW_some] <;> rfl) | (simp [*, errW_none, errW_some] <;> rfl), by repeat (first | (with_reducible first | exact HB.out | apply lA_ | apply lN_ | apply lD_ | refine lS_ ?_ (sG_ HI662.out) | refine lS_ ?_ GE651.out | refine lS_ ?_ GE680.out | refine lS_ ?_ GE681.out) | exact HB.out)⟩
          ·rw [if_neg c34] at H
           exact absurd H (by simp)
         ·rw [if_neg c33] at H
          exact absurd H (by simp)
        ·rw [if_neg c32] at H
         exact absurd H (by simp)
       ·rw [if_neg c31] at H
        exact absurd H (by simp)
      ·rw [if_neg c30] at H
       exact absurd H (by simp)
     ·replace c29 := Bool.eq_false_iff.mpr c29
      subst c29
      have H1 : ((date_Between.f kj9 t664 t665 t666 t667 t668 t669).bind fun bt704 => (if (wrap64 ((wrap64 (t670 + t684)) + bt704.2)) = 0 then (if 0 ≤ a0 then (if a0 < 5 then (if t683 = (rd ([0, 52, 26, 13, 12] : List Int) a0) then (stipendlaw04_PeriodWeeks.j1 kj9 a0 a2 bt704.1 (t682 != (mn a2 t683)) a1_0 a1_1 a1_2 x663000_9 x663001_9 x663002_9 x663003_9 x663004_9 x663005_9 x663006_9 x663007_9 x663008_9 t664 t665 t666) else (stipendlaw04_PeriodWeeks.j1 kj9 a0 a2 bt704.1 true a1_0 a1_1 a1_2 x663000_9 x663001_9 x663002_9 x663003_9 x663004_9 x663005_9 x663006_9 x663007_9 x663008_9 t664 t665 t666)) else (none)) else (none)) else (stipendlaw04_PeriodWeeks.j1 kj9 a0 a2 bt704.1 true a1_0 a1_1 a1_2 x663000_9 x663001_9 x663002_9 x663003_9 x663004_9 x663005_9 x663006_9 x663007_9 x663008_9 t664 t665 t666))) = some r := by rw [if_neg (show ¬ (false = true) by decide)] at H; exact H
      clear H
      have H := H1
      clear H1
      replace H := oB_ H
      obtain ⟨⟨t704, t705⟩, A420, H⟩ := H
      replace H : (if (wrap64 ((wrap64 (t670 + t684)) + t705)) = 0 then (if 0 ≤ a0 then (if a0 < 5 then (if t683 = (rd ([0, 52, 26, 13, 12] : List Int) a0) then (stipendlaw04_PeriodWeeks.j1 kj9 a0 a2 t704 (t682 != (mn a2 t683)) a1_0 a1_1 a1_2 x663000_9 x663001_9 x663002_9 x663003_9 x663004_9 x663005_9 x663006_9 x663007_9 x663008_9 t664 t665 t666) else (stipendlaw04_PeriodWeeks.j1 kj9 a0 a2 t704 true a1_0 a1_1 a1_2 x663000_9 x663001_9 x663002_9 x663003_9 x663004_9 x663005_9 x663006_9 x663007_9 x663008_9 t664 t665 t666)) else (none)) else (none)) else (stipendlaw04_PeriodWeeks.j1 kj9 a0 a2 t704 true a1_0 a1_1 a1_2 x663000_9 x663001_9 x663002_9 x663003_9 x663004_9 x663005_9 x663006_9 x663007_9 x663008_9 t664 t665 t666)) = some r := H
      have A42 := a0_ A420
      clear A420
      have HC43 := a0_ H
      clear H
      have hnb44 := NB680_651.out
      have hnc44 := NB651_680.out
      have hnb45 := NB680_681.out
      have hnc45 := NB681_680.out
      have hnb46 := NB680_662.out
      have hnc46 := NB662_680.out
      have hcz47_0 : wc.cell? ⟨gb680, 0, none⟩ = some (.int .i64 t664) := (bC_ BK680.out 0).trans rfl
      have hcz47_1 : wc.cell? ⟨gb680, 1, none⟩ = some (.int .i64 t665) := (bC_ BK680.out 1).trans rfl
      have hcz47_2 : wc.cell? ⟨gb680, 2, none⟩ = some (.int .i64 t666) := (bC_ BK680.out 2).trans rfl
      have hfz47_0 := bF_ BK680.out 0
      have hfz47_1 := bF_ BK680.out 1
      have hfz47_2 := bF_ BK680.out 2
      have hnb48 := NB681_651.out
      have hnc48 := NB651_681.out
      have hnb49 := NB681_662.out
      have hnc49 := NB662_681.out
      have hcz50_0 : wc.cell? ⟨gb681, 0, none⟩ = some (.int .i64 t667) := (bC_ BK681.out 0).trans rfl
      have hcz50_1 : wc.cell? ⟨gb681, 1, none⟩ = some (.int .i64 t668) := (bC_ BK681.out 1).trans rfl
      have hcz50_2 : wc.cell? ⟨gb681, 2, none⟩ = some (.int .i64 t669) := (bC_ BK681.out 2).trans rfl
      have hfz50_0 := bF_ BK681.out 0
      have hfz50_1 := bF_ BK681.out 1
      have hfz50_2 := bF_ BK681.out 2
      go_upto_region 11 with (first | ((with_reducible refine gate_callee (f := 16) rfl ?_); refine goesL_ (some 77) rfl rfl Try.func16 (by kernel_rfl) rfl #[.agg #[.int .i64 t664, .int .i64 t665, .int .i64 t666], .agg #[.int .i64 t667, .int .i64 t668, .int .i64 t669]] rfl (by (try simp only [List.map_toArray, List.map_cons, List.map_nil]); first | done | rfl) ?_; (with_reducible refine (date_Between.calls kj9 t664 t665 t666 t667 t668 t669 t704 t705 _ A42.out).mono ?_); rintro e w51 ⟨rfl, hb⟩; refine ⟨_, rfl, ?_⟩; have n0_ := a0_ (bB_ (g := gb651) (o := .cells #[.int .i64 a1_0, .int .i64 a1_1, .int .i64 a1_2] 23 (0, 0)) (by (with_reducible repeat first | apply bN_ | apply bD_ | apply bA_); exact BK651.out) hb); have n1_ := a0_ (bB_ (g := gb680) (o := .cells #[.int .i64 t664, .int .i64 t665, .int .i64 t666] 23 (0, 0)) (by (with_reducible repeat first | apply bN_ | apply bD_ | apply bA_); exact BK680.out) hb); have n2_ := a0_ (bB_ (g := gb681) (o := .cells #[.int .i64 t667, .int .i64 t668, .int .i64 t669] 23 (0, 0)) (by (with_reducible repeat first | apply bN_ | apply bD_ | apply bA_); exact BK681.out) hb); have n3_ := a0_ (IsS62.below (by repeat (first | (with_reducible first | exact HI662.out | apply sA_ | apply sN_ | apply sD_ | refine sF_ ?_ NB662_651.out _ | refine sF_ ?_ NB662_680.out _ | refine sF_ ?_ NB662_681.out _) | exact HI662.out)) hb); have n4_ := a0_ (below_step (by repeat (first | (with_reducible first | exact HB.out | apply lA_ | apply lN_ | apply lD_ | refine lS_ ?_ (sG_ HI662.out) | refine lS_ ?_ GE651.out | refine lS_ ?_ GE680.out | refine lS_ ?_ GE681.out) | exact HB.out)) hb); clear BK651; clear BK680; clear BK681; clear HI662; clear HB; have BK651 := n0_; have BK680 := n1_; have BK681 := n2_; have HI662 := n3_; have HB := n4_; clear n0_ n1_ n2_ n3_ n4_; (try clear hb); (try clear hb2); (try clear hk); (try clear hi)))
      (try simp only [Act.put, zA_, zB_, zC_])
      go_cut [99] (fun v99 wc => ∃ (kq : Nat) (x99_42 : Bool), v99 = .bool x99_42 ∧ Aside0 (stipendlaw04_PeriodWeeks.j1 kq a0 a2 t704 x99_42 a1_0 a1_1 a1_2 x663000_9 x663001_9 x663002_9 x663003_9 x663004_9 x663005_9 x663006_9 x663007_9 x663008_9 t664 t665 t666 = some r) ∧ Aside0 (kq ≤ kj9) ∧ Aside0 (wc.heap[gb651]? = some (.cells #[.int .i64 a1_0, .int .i64 a1_1, .int .i64 a1_2] 23 (0, 0))) ∧ Aside0 (wc.heap[gb680]? = some (.cells #[.int .i64 t664, .int .i64 t665, .int .i64 t666] 23 (0, 0))) ∧ Aside0 (wc.heap[gb681]? = some (.cells #[.int .i64 t667, .int .i64 t668, .int .i64 t669] 23 (0, 0))) ∧ Aside0 (IsS62 w wc g662 x663000_9 x663001_9 x663002_9 x663003_9 x663004_9 x663005_9 x663006_9 x663007_9 x663008_9) ∧ Aside0 (Below w.heap.size w wc))
      case first =>
       have H := HC43.out
       clear HC43
       by_cases c52 : (wrap64 ((wrap64 (t670 + t684)) + t705)) = 0
       ·rw [if_pos c52] at H
        have c52b0 : ((wrap64 ((wrap64 (t670 + t684)) + t705)) == 0) = true := beq_iff_eq.mpr c52
        have c52b1 : ((wrap64 ((wrap64 (t670 + t684)) + t705)) != 0) = false := bne_eq_false_iff_eq.mpr c52
        clear c52
        (first | rw [c52b0] | (simp only [i64_w, i32_w]; rw [c52b0]) | skip)
        by_cases c53 : 0 ≤ a0
        ·rw [if_pos c53] at H
         have c53b0 : decide (0 ≤ a0) = true := decide_eq_true c53
         clear c53
         by_cases c54 : a0 < 5
         ·rw [if_pos c54] at H
          have c54b0 : decide (a0 < 5) = true := decide_eq_true c54
          try have hix44_ := fun (p0 p1 p2 p3 p4 : Int) (W : World) => ints44_5_at (i := a0) (by first | omega | exact of_decide_eq_true (by assumption)) (of_decide_eq_true c54b0) p0 p1 p2 p3 p4 W
          clear c54
          by_cases c55 : t683 = (rd ([0, 52, 26, 13, 12] : List Int) a0)
          ·rw [if_pos c55] at H
           have c55b0 : (t683 == (rd ([0, 52, 26, 13, 12] : List Int) a0)) = true := beq_iff_eq.mpr c55
           have c55b1 : (t683 != (rd ([0, 52, 26, 13, 12] : List Int) a0)) = false := bne_eq_false_iff_eq.mpr c55
           clear c55
           obtain ⟨ji56, hji56⟩ : ∃ j_ : Int, (mn a2 t683) = j_ := ⟨_, rfl⟩
           replace H : (stipendlaw04_PeriodWeeks.j1 kj9 a0 a2 t704 (t682 != (ji56)) a1_0 a1_1 a1_2 x663000_9 x663001_9 x663002_9 x663003_9 x663004_9 x663005_9 x663006_9 x663007_9 x663008_9 t664 t665 t666) = some r := by first | (rw [hji56] at H; exact H) | (simp only [hji56] at H ⊢; exact H)
           have hji56_ : (if t683 < a2 then t683 else a2) = ji56 := hji56
           have H' := a0_ H
           clear H
           go_wp2
           go_meet
           case rel => exact ⟨_, ((t682 != (ji56))), (by first | rfl | (simp; done) | (simp only [← hji56] <;> (first | rfl | simp)) | (simp [*]; done)), H', ⟨by have := HJ9.out; first | omega | exact Nat.le_refl _⟩, ⟨by (with_reducible repeat first | apply bN_ | apply bD_ | apply bA_); exact BK651.out⟩, ⟨by (with_reducible repeat first | apply bN_ | apply bD_ | apply bA_); exact BK680.out⟩, ⟨by (with_reducible repeat first | apply bN_ | apply bD_ | apply bA_); exact BK681.out⟩, ⟨by repeat (first | (with_reducible first | exact HI662.out | apply sA_ | apply sN_ | apply sD_ | refine sF_ ?_ NB662_651.out _ | refine sF_ ?_ NB662_680.out _ | refine sF_ ?_ NB662_681.out _) | exact HI662.out)⟩, ⟨by repeat (first | (with_reducible first | exact HB.out | apply lA_ | apply lN_ | apply lD_ | refine lS_ ?_ (sG_ HI662.out) | refine lS_ ?_ GE651.out | refine lS_ ?_ GE680.out | refine lS_ ?_ GE681.out) | exact HB.out)⟩⟩
          ·rw [if_neg c55] at H
           have c55b0 : (t683 == (rd ([0, 52, 26, 13, 12] : List Int) a0)) = false := beq_eq_false_iff_ne.mpr c55
           have c55b1 : (t683 != (rd ([0, 52, 26, 13, 12] : List Int) a0)) = true := bne_iff_ne.mpr c55
           have H' := a0_ H
           clear H
           go_wp2
           go_meet
           case rel => exact ⟨_, (true), (by first | rfl | (simp; done) | (simp [*]; done)), H', ⟨by have := HJ9.out; first | omega | exact Nat.le_refl _⟩, ⟨by (with_reducible repeat first | apply bN_ | apply bD_ | apply bA_); exact BK651.out⟩, ⟨by (with_reducible repeat first | apply bN_ | apply bD_ | apply bA_); exact BK680.out⟩, ⟨by (with_reducible repeat first | apply bN_ | apply bD_ | apply bA_); exact BK681.out⟩, ⟨by repeat (first | (with_reducible first | exact HI662.out | apply sA_ | apply sN_ | apply sD_ | refine sF_ ?_ NB662_651.out _ | refine sF_ ?_ NB662_680.out _ | refine sF_ ?_ NB662_681.out _) | exact HI662.out)⟩, ⟨by repeat (first | (with_reducible first | exact HB.out | apply lA_ | apply lN_ | apply lD_ | refine lS_ ?_ (sG_ HI662.out) | refine lS_ ?_ GE651.out | refine lS_ ?_ GE680.out | refine lS_ ?_ GE681.out) | exact HB.out)⟩⟩
         ·rw [if_neg c54] at H
          exact absurd H (by simp)
        ·rw [if_neg c53] at H
         exact absurd H (by simp)
       ·rw [if_neg c52] at H
        have c52b0 : ((wrap64 ((wrap64 (t670 + t684)) + t705)) == 0) = false := beq_eq_false_iff_ne.mpr c52
        have c52b1 : ((wrap64 ((wrap64 (t670 + t684)) + t705)) != 0) = true := bne_iff_ne.mpr c52
        (first | rw [c52b0] | (simp only [i64_w, i32_w]; rw [c52b0]) | skip)
        have H' := a0_ H
        clear H
        go_wp2
        go_meet
        case rel => exact ⟨_, (true), (by first | rfl | (simp; done) | (simp [*]; done)), H', ⟨by have := HJ9.out; first | omega | exact Nat.le_refl _⟩, ⟨by (with_reducible repeat first | apply bN_ | apply bD_ | apply bA_); exact BK651.out⟩, ⟨by (with_reducible repeat first | apply bN_ | apply bD_ | apply bA_); exact BK680.out⟩, ⟨by (with_reducible repeat first | apply bN_ | apply bD_ | apply bA_); exact BK681.out⟩, ⟨by repeat (first | (with_reducible first | exact HI662.out | apply sA_ | apply sN_ | apply sD_ | refine sF_ ?_ NB662_651.out _ | refine sF_ ?_ NB662_680.out _ | refine sF_ ?_ NB662_681.out _) | exact HI662.out)⟩, ⟨by repeat (first | (with_reducible first | exact HB.out | apply lA_ | apply lN_ | apply lD_ | refine lS_ ?_ (sG_ HI662.out) | refine lS_ ?_ GE651.out | refine lS_ ?_ GE680.out | refine lS_ ?_ GE681.out) | exact HB.out)⟩⟩
      case rest =>
       clear HC43
       try clear p2
       try clear c5
       try clear c6
       try clear c6b0
       try clear c26
       try clear c26b0
       try clear c29
       try clear c30
       try clear c30b0
       try clear c30b1
       try clear c31
       try clear c31b0
       try clear c31b1
       try clear c32
       try clear c32b0
       try clear c32b1
       try clear c32b2
       try clear c33
       try clear c33b0
       try clear c33b1
       try clear c33b2
       try clear c34
       try clear c34b0
       try clear c34b1
       try clear c52
       try clear c52b0
       try clear c52b1
       try clear c53
       try clear c53b0
       try clear c54
       try clear c54b0
       try clear c55
       try clear c55b0
       try clear c55b1
       try clear hcz13_0
       try clear hcz13_1
       try clear hcz13_2
       try clear hcz21_0
       try clear hcz21_1
       try clear hcz21_2
       try clear hcz24_0
       try clear hcz24_1
       try clear hcz24_2
       try clear hcz38_0
       try clear hcz38_1
       try clear hcz38_2
       try clear hcz41_0
       try clear hcz41_1
       try clear hcz41_2
       try clear hcz47_0
       try clear hcz47_1
       try clear hcz47_2
       try clear hcz50_0
       try clear hcz50_1
       try clear hcz50_2
       try clear hfz13_0
       try clear hfz13_1
       try clear hfz13_2
       try clear hfz21_0
       try clear hfz21_1
       try clear hfz21_2
       try clear hfz24_0
       try clear hfz24_1
       try clear hfz24_2
       try clear hfz38_0
       try clear hfz38_1
       try clear hfz38_2
       try clear hfz41_0
       try clear hfz41_1
       try clear hfz41_2
       try clear hfz47_0
       try clear hfz47_1
       try clear hfz47_2
       try clear hfz50_0
       try clear hfz50_1
       try clear hfz50_2
       try clear p2
       obtain ⟨kq, x99_42, rfl, HA, HJ42, BK651, BK680, BK681, HI662, HB⟩ := hcut
       cases kq with
       | zero => exact absurd HA.out (by simp [stipendlaw04_PeriodWeeks.j1])
       | succ kj42 =>
        have H := HA.out
        clear HA
        simp only [stipendlaw04_PeriodWeeks.j1] at H
        by_cases c57 : x99_42 = true
        ·subst c57
         have H1 : (none) = some r := by rw [if_pos rfl] at H; exact H
         clear H
         have H := H1
         clear H1
         exact absurd H (by simp)
        ·replace c57 := Bool.eq_false_iff.mpr c57
         subst c57
         have H1 : (if a0 = 4 then (if t666 = a1_2 then (some true) else (if t666 < a1_2 then ((stipendref03_Month.f t664 t665).bind fun t706 => (some (t666 == t706))) else (none))) else (if 0 ≤ a0 then (if a0 < 4 then (if t704 = (wrap64 ((rd ([0, 7, 14, 28] : List Int) a0) - 1)) then (some true) else ((period_Year_Count.f x663000_9 x663001_9 x663002_9 x663003_9 x663004_9 x663005_9 x663006_9 x663007_9 x663008_9).bind fun bt707 => (if a2 = bt707.1 then (some (decide (t704 < (rd ([0, 7, 14, 28] : List Int) a0)))) else (none)))) else (none)) else (none))) = some r := by rw [if_neg (show ¬ (false = true) by decide)] at H; exact H
         clear H
         have H := H1
         clear H1
         by_cases c58 : a0 = 4
         ·rw [if_pos c58] at H
          have c58b0 : (a0 == 4) = true := beq_iff_eq.mpr c58
          have c58b1 : (a0 != 4) = false := bne_eq_false_iff_eq.mpr c58
          clear c58
          by_cases c59 : t666 = a1_2
          ·rw [if_pos c59] at H
           have c59b0 : (t666 == a1_2) = true := beq_iff_eq.mpr c59
           have c59b1 : (t666 != a1_2) = false := bne_eq_false_iff_eq.mpr c59
           clear c59
           obtain rfl := Option.some.inj H
           try go_wp2
           have n0_ := a0_ (bD_ BK651.out)
           have n1_ := a0_ (bD_ BK680.out)
           have n2_ := a0_ (bD_ BK681.out)
           have n3_ := a0_ (sD_ HI662.out)
           have n4_ := a0_ (lD_ HB.out)
           clear BK651
           clear BK680
           clear BK681
           clear HI662
           clear HB
           have BK651 := n0_
           have BK680 := n1_
           have BK681 := n2_
           have HI662 := n3_
           have HB := n4_
           clear n0_ n1_ n2_ n3_ n4_
           refine start_ (n := 23) (S := fun w' => w'.cell? ⟨gb680, 0, none⟩ = some (.int .i64 t664) ∧ w'.cell? ⟨gb680, 1, none⟩ = some (.int .i64 t665) ∧ w'.cell? ⟨gb680, 2, none⟩ = some (.int .i64 t666) ∧ w'.cell? ⟨gb651, 0, none⟩ = some (.int .i64 a1_0) ∧ w'.cell? ⟨gb651, 1, none⟩ = some (.int .i64 a1_1) ∧ w'.cell? ⟨gb651, 2, none⟩ = some (.int .i64 a1_2)) (ds := []) #[false, false, false, false, false, false, false, false, false, false, false, false, false, false, false, false, false, false, false, false, false, false, false] (by kernel_rfl) rfl rfl ⟨(bC_ BK680.out 0).trans rfl, (bC_ BK680.out 1).trans rfl, (bC_ BK680.out 2).trans rfl, (bC_ BK651.out 0).trans rfl, (bC_ BK651.out 1).trans rfl, (bC_ BK651.out 2).trans rfl⟩ (fun hHeld => ?_); refine with_tabW stipendlaw04_PeriodWeeks.tab14 stipendlaw04_PeriodWeeks.bits14 (fun HT_ HW_ => ?_)
           generalize wc.drew = w60 at BK651 BK680 BK681 HI662 HB hHeld ⊢
           refine pure_ (i := 0) (N := some 102) (v := ?_) (a' := ?_) #[true, false, false, false, false, false, false, false, false, false, false, false, false, false, false, false, false, false, false, false, false, false, false] rfl rfl (any_of HT_.out (by kernel_rfl)) (fun _ _ _ h => h) (Or.inl ⟨by rfl, ?_⟩) ?_ ?_
           rotate_left
           ·intro w'
            go_simp
            with_reducible rfl
           rotate_left
           ·simp only [Act.put, zA_, zB_, zC_, i64_w, i32_w]
            rfl
           refine pure_ (i := 2) (N := some 104) (v := ?_) (a' := ?_) #[true, false, true, false, false, false, false, false, false, false, false, false, false, false, false, false, false, false, false, false, false, false, false] rfl rfl (any_of HT_.out (by kernel_rfl)) (fun _ _ _ h => h) (Or.inl ⟨by rfl, ?_⟩) ?_ ?_
           rotate_left
           ·intro w'
            go_simp
            with_reducible rfl
           rotate_left
           ·simp only [Act.put, zA_, zB_, zC_, i64_w, i32_w]
            rfl
           refine take_ (i := 1) (N := some 103) (v := ?_) (a' := ?_) #[true, true, true, false, false, false, false, false, false, false, false, false, false, false, false, false, false, false, false, false, false, false, false] rfl rfl (take_ofW HT_.out HW_.out (by kernel_rfl)) (fun _ _ _ h => h) (Or.inl ⟨by rfl, ?_⟩) hHeld ?_ ?_
           rotate_left
           ·rintro w' ⟨s0, s1, s2, s3, s4, s5⟩
            go_simp
            with_reducible rfl
           rotate_left
           ·simp only [Act.put, zA_, zB_, zC_, i64_w, i32_w]
            rfl
           refine take_ (i := 3) (N := some 105) (v := ?_) (a' := ?_) #[true, true, true, true, false, false, false, false, false, false, false, false, false, false, false, false, false, false, false, false, false, false, false] rfl rfl (take_ofW HT_.out HW_.out (by kernel_rfl)) (fun _ _ _ h => h) (Or.inl ⟨by rfl, ?_⟩) hHeld ?_ ?_
           rotate_left
           ·rintro w' ⟨s0, s1, s2, s3, s4, s5⟩
            go_simp
            with_reducible rfl
           rotate_left
           ·simp only [Act.put, zA_, zB_, zC_, i64_w, i32_w]
            rfl
           refine pure_ (i := 4) (N := some 106) (v := ?_) (a' := ?_) #[true, true, true, true, true, false, false, false, false, false, false, false, false, false, false, false, false, false, false, false, false, false, false] rfl rfl (any_of HT_.out (by kernel_rfl)) (fun _ _ _ h => h) (Or.inl ⟨by rfl, ?_⟩) ?_ ?_
           rotate_left
           ·intro w'
            go_simp
            with_reducible rfl
           rotate_left
           ·simp only [Act.put, zA_, zB_, zC_, i64_w, i32_w]
            rfl
           refine pure_ (i := 5) (N := some 107) (v := ?_) (a' := ?_) #[true, true, true, true, true, true, false, false, false, false, false, false, false, false, false, false, false, false, false, false, false, false, false] rfl rfl (any_of HT_.out (by kernel_rfl)) (fun _ _ _ h => h) (Or.inl ⟨by rfl, ?_⟩) ?_ ?_
           rotate_left
           ·intro w'
            go_simp
            with_reducible rfl
           rotate_left
           ·simp only [Act.put, zA_, zB_, zC_, i64_w, i32_w]
            rfl
           refine pure_ (i := 6) (N := some 108) (v := undef) (a' := ?_) #[true, true, true, true, true, true, true, false, false, false, false, false, false, false, false, false, false, false, false, false, false, false, false] rfl rfl (any_of HT_.out (by kernel_rfl)) (fun _ _ _ h => h) (Or.inr ⟨by rfl, rfl⟩) ?_ ?_
           rotate_left
           ·simp only [Act.put, zA_, zB_, zC_, i64_w, i32_w]
            rfl
           refine pure_ (i := 7) (N := some 109) (v := undef) (a' := ?_) #[true, true, true, true, true, true, true, true, false, false, false, false, false, false, false, false, false, false, false, false, false, false, false] rfl rfl (any_of HT_.out (by kernel_rfl)) (fun _ _ _ h => h) (Or.inr ⟨by rfl, rfl⟩) ?_ ?_
           rotate_left
           ·simp only [Act.put, zA_, zB_, zC_, i64_w, i32_w]
            rfl
           refine pure_ (i := 8) (N := some 110) (v := undef) (a' := ?_) #[true, true, true, true, true, true, true, true, true, false, false, false, false, false, false, false, false, false, false, false, false, false, false] rfl rfl (any_of HT_.out (by kernel_rfl)) (fun _ _ _ h => h) (Or.inr ⟨by rfl, rfl⟩) ?_ ?_
           rotate_left
           ·simp only [Act.put, zA_, zB_, zC_, i64_w, i32_w]
            rfl
           refine pure_ (i := 9) (N := some 111) (v := undef) (a' := ?_) #[true, true, true, true, true, true, true, true, true, true, false, false, false, false, false, false, false, false, false, false, false, false, false] rfl rfl (any_of HT_.out (by kernel_rfl)) (fun _ _ _ h => h) (Or.inr ⟨by rfl, rfl⟩) ?_ ?_
           rotate_left
           ·simp only [Act.put, zA_, zB_, zC_, i64_w, i32_w]
            rfl
           refine pure_ (i := 10) (N := some 112) (v := undef) (a' := ?_) #[true, true, true, true, true, true, true, true, true, true, true, false, false, false, false, false, false, false, false, false, false, false, false] rfl rfl (any_of HT_.out (by kernel_rfl)) (fun _ _ _ h => h) (Or.inr ⟨by rfl, rfl⟩) ?_ ?_
           rotate_left
           ·simp only [Act.put, zA_, zB_, zC_, i64_w, i32_w]
            rfl
           refine pure_ (i := 11) (N := some 113) (v := undef) (a' := ?_) #[true, true, true, true, true, true, true, true, true, true, true, true, false, false, false, false, false, false, false, false, false, false, false] rfl rfl (any_of HT_.out (by kernel_rfl)) (fun _ _ _ h => h) (Or.inr ⟨by rfl, rfl⟩) ?_ ?_
           rotate_left
           ·simp only [Act.put, zA_, zB_, zC_, i64_w, i32_w]
            rfl
           refine pure_ (i := 12) (N := some 114) (v := undef) (a' := ?_) #[true, true, true, true, true, true, true, true, true, true, true, true, true, false, false, false, false, false, false, false, false, false, false] rfl rfl (any_of HT_.out (by kernel_rfl)) (fun _ _ _ h => h) (Or.inr ⟨by rfl, rfl⟩) ?_ ?_
           rotate_left
           ·simp only [Act.put, zA_, zB_, zC_, i64_w, i32_w]
            rfl
           refine pure_ (i := 13) (N := some 115) (v := undef) (a' := ?_) #[true, true, true, true, true, true, true, true, true, true, true, true, true, true, false, false, false, false, false, false, false, false, false] rfl rfl (any_of HT_.out (by kernel_rfl)) (fun _ _ _ h => h) (Or.inr ⟨by rfl, rfl⟩) ?_ ?_
           rotate_left
           ·simp only [Act.put, zA_, zB_, zC_, i64_w, i32_w]
            rfl
           refine pure_ (i := 14) (N := some 116) (v := undef) (a' := ?_) #[true, true, true, true, true, true, true, true, true, true, true, true, true, true, true, false, false, false, false, false, false, false, false] rfl rfl (any_of HT_.out (by kernel_rfl)) (fun _ _ _ h => h) (Or.inr ⟨by rfl, rfl⟩) ?_ ?_
           rotate_left
           ·simp only [Act.put, zA_, zB_, zC_, i64_w, i32_w]
            rfl
           refine pure_ (i := 15) (N := some 117) (v := undef) (a' := ?_) #[true, true, true, true, true, true, true, true, true, true, true, true, true, true, true, true, false, false, false, false, false, false, false] rfl rfl (any_of HT_.out (by kernel_rfl)) (fun _ _ _ h => h) (Or.inr ⟨by rfl, rfl⟩) ?_ ?_
           rotate_left
           ·simp only [Act.put, zA_, zB_, zC_, i64_w, i32_w]
            rfl
           refine pure_ (i := 16) (N := some 118) (v := undef) (a' := ?_) #[true, true, true, true, true, true, true, true, true, true, true, true, true, true, true, true, true, false, false, false, false, false, false] rfl rfl (any_of HT_.out (by kernel_rfl)) (fun _ _ _ h => h) (Or.inr ⟨by rfl, rfl⟩) ?_ ?_
           rotate_left
           ·simp only [Act.put, zA_, zB_, zC_, i64_w, i32_w]
            rfl
           refine pure_ (i := 17) (N := some 119) (v := undef) (a' := ?_) #[true, true, true, true, true, true, true, true, true, true, true, true, true, true, true, true, true, true, false, false, false, false, false] rfl rfl (any_of HT_.out (by kernel_rfl)) (fun _ _ _ h => h) (Or.inr ⟨by rfl, rfl⟩) ?_ ?_
           rotate_left
           ·simp only [Act.put, zA_, zB_, zC_, i64_w, i32_w]
            rfl
           refine pure_ (i := 18) (N := some 120) (v := undef) (a' := ?_) #[true, true, true, true, true, true, true, true, true, true, true, true, true, true, true, true, true, true, true, false, false, false, false] rfl rfl (any_of HT_.out (by kernel_rfl)) (fun _ _ _ h => h) (Or.inr ⟨by rfl, rfl⟩) ?_ ?_
           rotate_left
           ·simp only [Act.put, zA_, zB_, zC_, i64_w, i32_w]
            rfl
           refine pure_ (i := 19) (N := some 121) (v := undef) (a' := ?_) #[true, true, true, true, true, true, true, true, true, true, true, true, true, true, true, true, true, true, true, true, false, false, false] rfl rfl (any_of HT_.out (by kernel_rfl)) (fun _ _ _ h => h) (Or.inr ⟨by rfl, rfl⟩) ?_ ?_
           rotate_left
           ·simp only [Act.put, zA_, zB_, zC_, i64_w, i32_w]
            rfl
           refine pure_ (i := 20) (N := some 122) (v := undef) (a' := ?_) #[true, true, true, true, true, true, true, true, true, true, true, true, true, true, true, true, true, true, true, true, true, false, false] rfl rfl (any_of HT_.out (by kernel_rfl)) (fun _ _ _ h => h) (Or.inr ⟨by rfl, rfl⟩) ?_ ?_
           rotate_left
           ·simp only [Act.put, zA_, zB_, zC_, i64_w, i32_w]
            rfl
           refine pure_ (i := 21) (N := some 123) (v := ?_) (a' := ?_) #[true, true, true, true, true, true, true, true, true, true, true, true, true, true, true, true, true, true, true, true, true, true, false] rfl rfl (any_of HT_.out (by kernel_rfl)) (fun _ _ _ h => h) (Or.inl ⟨by rfl, ?_⟩) ?_ ?_
           rotate_left
           ·intro w'
            go_simp
            with_reducible rfl
           rotate_left
           ·simp only [Act.put, zA_, zB_, zC_, i64_w, i32_w]
            rfl
           refine pure_ (i := 22) (N := some 6) (v := ?_) (a' := ?_) #[true, true, true, true, true, true, true, true, true, true, true, true, true, true, true, true, true, true, true, true, true, true, true] rfl rfl (any_of HT_.out (by kernel_rfl)) (fun _ _ _ h => h) (Or.inl ⟨by rfl, ?_⟩) ?_ ?_
           rotate_left
           ·intro w'
            go_simp
            with_reducible rfl
           rotate_left
           ·simp only [Act.put, zA_, zB_, zC_, i64_w, i32_w]
            rfl
           refine done_ (done_of HT_.out (by kernel_rfl)) ?_
           try go_wp2
           go_ret
           exact ⟨by first | rfl | (simp [errW_none, errW_some] <;> rfl) | (simp [*, errW_none, errW_some] <;> rfl), by repeat (first | (with_reducible first | exact HB.out | apply lA_ | apply lN_ | apply lD_ | refine lS_ ?_ (sG_ HI662.out) | refine lS_ ?_ GE651.out | refine lS_ ?_ GE680.out | refine lS_ ?_ GE681.out) | exact HB.out)⟩
          ·rw [if_neg c59] at H
           have c59b0 : (t666 == a1_2) = false := beq_eq_false_iff_ne.mpr c59
           have c59b1 : (t666 != a1_2) = true := bne_iff_ne.mpr c59
           by_cases c61 : t666 < a1_2
           ·rw [if_pos c61] at H
            have c61b0 : decide (t666 < a1_2) = true := decide_eq_true c61
            clear c61
            replace H := oB_ H
            obtain ⟨t706, A620, H⟩ := H
            replace H : (some (t666 == t706)) = some r := H
            have A62 := a0_ A620
            clear A620
            obtain rfl := Option.some.inj H
            try go_wp2
            have n0_ := a0_ (bD_ BK651.out)
            have n1_ := a0_ (bD_ BK680.out)
            have n2_ := a0_ (bD_ BK681.out)
            have n3_ := a0_ (sD_ HI662.out)
            have n4_ := a0_ (lD_ HB.out)
            clear BK651
            clear BK680
            clear BK681
            clear HI662
            clear HB
            have BK651 := n0_
            have BK680 := n1_
            have BK681 := n2_
            have HI662 := n3_
            have HB := n4_
            clear n0_ n1_ n2_ n3_ n4_
            refine start_ (n := 23) (S := fun w' => w'.cell? ⟨gb680, 0, none⟩ = some (.int .i64 t664) ∧ w'.cell? ⟨gb680, 1, none⟩ = some (.int .i64 t665) ∧ w'.cell? ⟨gb680, 2, none⟩ = some (.int .i64 t666) ∧ w'.cell? ⟨gb651, 0, none⟩ = some (.int .i64 a1_0) ∧ w'.cell? ⟨gb651, 1, none⟩ = some (.int .i64 a1_1) ∧ w'.cell? ⟨gb651, 2, none⟩ = some (.int .i64 a1_2)) (ds := []) #[false, false, false, false, false, false, false, false, false, false, false, false, false, false, false, false, false, false, false, false, false, false, false] (by kernel_rfl) rfl rfl ⟨(bC_ BK680.out 0).trans rfl, (bC_ BK680.out 1).trans rfl, (bC_ BK680.out 2).trans rfl, (bC_ BK651.out 0).trans rfl, (bC_ BK651.out 1).trans rfl, (bC_ BK651.out 2).trans rfl⟩ (fun hHeld => ?_); refine with_tabW stipendlaw04_PeriodWeeks.tab14 stipendlaw04_PeriodWeeks.bits14 (fun HT_ HW_ => ?_)
            generalize wc.drew = w63 at BK651 BK680 BK681 HI662 HB hHeld ⊢
            refine pure_ (i := 0) (N := some 102) (v := ?_) (a' := ?_) #[true, false, false, false, false, false, false, false, false, false, false, false, false, false, false, false, false, false, false, false, false, false, false] rfl rfl (any_of HT_.out (by kernel_rfl)) (fun _ _ _ h => h) (Or.inl ⟨by rfl, ?_⟩) ?_ ?_
            rotate_left
            ·intro w'
             go_simp
             with_reducible rfl
            rotate_left
            ·simp only [Act.put, zA_, zB_, zC_, i64_w, i32_w]
             rfl
            refine pure_ (i := 2) (N := some 104) (v := ?_) (a' := ?_) #[true, false, true, false, false, false, false, false, false, false, false, false, false, false, false, false, false, false, false, false, false, false, false] rfl rfl (any_of HT_.out (by kernel_rfl)) (fun _ _ _ h => h) (Or.inl ⟨by rfl, ?_⟩) ?_ ?_
            rotate_left
            ·intro w'
             go_simp
             with_reducible rfl
            rotate_left
            ·simp only [Act.put, zA_, zB_, zC_, i64_w, i32_w]
             rfl
            refine take_ (i := 1) (N := some 103) (v := ?_) (a' := ?_) #[true, true, true, false, false, false, false, false, false, false, false, false, false, false, false, false, false, false, false, false, false, false, false] rfl rfl (take_ofW HT_.out HW_.out (by kernel_rfl)) (fun _ _ _ h => h) (Or.inl ⟨by rfl, ?_⟩) hHeld ?_ ?_
            rotate_left
            ·rintro w' ⟨s0, s1, s2, s3, s4, s5⟩
             go_simp
             with_reducible rfl
            rotate_left
            ·simp only [Act.put, zA_, zB_, zC_, i64_w, i32_w]
             rfl
            refine take_ (i := 3) (N := some 105) (v := ?_) (a' := ?_) #[true, true, true, true, false, false, false, false, false, false, false, false, false, false, false, false, false, false, false, false, false, false, false] rfl rfl (take_ofW HT_.out HW_.out (by kernel_rfl)) (fun _ _ _ h => h) (Or.inl ⟨by rfl, ?_⟩) hHeld ?_ ?_
            rotate_left
            ·rintro w' ⟨s0, s1, s2, s3, s4, s5⟩
             go_simp
             with_reducible rfl
            rotate_left
            ·simp only [Act.put, zA_, zB_, zC_, i64_w, i32_w]
             rfl
            refine pure_ (i := 4) (N := some 106) (v := ?_) (a' := ?_) #[true, true, true, true, true, false, false, false, false, false, false, false, false, false, false, false, false, false, false, false, false, false, false] rfl rfl (any_of HT_.out (by kernel_rfl)) (fun _ _ _ h => h) (Or.inl ⟨by rfl, ?_⟩) ?_ ?_
            rotate_left
            ·intro w'
             go_simp
             with_reducible rfl
            rotate_left
            ·simp only [Act.put, zA_, zB_, zC_, i64_w, i32_w]
             rfl
            refine pure_ (i := 5) (N := some 107) (v := ?_) (a' := ?_) #[true, true, true, true, true, true, false, false, false, false, false, false, false, false, false, false, false, false, false, false, false, false, false] rfl rfl (any_of HT_.out (by kernel_rfl)) (fun _ _ _ h => h) (Or.inl ⟨by rfl, ?_⟩) ?_ ?_
            rotate_left
            ·intro w'
             go_simp
             with_reducible rfl
            rotate_left
            ·simp only [Act.put, zA_, zB_, zC_, i64_w, i32_w]
             rfl
            refine pure_ (i := 6) (N := some 108) (v := ?_) (a' := ?_) #[true, true, true, true, true, true, true, false, false, false, false, false, false, false, false, false, false, false, false, false, false, false, false] rfl rfl (any_of HT_.out (by kernel_rfl)) (fun _ _ _ h => h) (Or.inl ⟨by rfl, ?_⟩) ?_ ?_
            rotate_left
            ·intro w'
             go_simp
             with_reducible rfl
            rotate_left
            ·simp only [Act.put, zA_, zB_, zC_, i64_w, i32_w]
             rfl
            refine pure_ (i := 8) (N := some 110) (v := ?_) (a' := ?_) #[true, true, true, true, true, true, true, false, true, false, false, false, false, false, false, false, false, false, false, false, false, false, false] rfl rfl (any_of HT_.out (by kernel_rfl)) (fun _ _ _ h => h) (Or.inl ⟨by rfl, ?_⟩) ?_ ?_
            rotate_left
            ·intro w'
             go_simp
             with_reducible rfl
            rotate_left
            ·simp only [Act.put, zA_, zB_, zC_, i64_w, i32_w]
             rfl
            refine take_ (i := 7) (N := some 109) (v := ?_) (a' := ?_) #[true, true, true, true, true, true, true, true, true, false, false, false, false, false, false, false, false, false, false, false, false, false, false] rfl rfl (take_ofW HT_.out HW_.out (by kernel_rfl)) (fun _ _ _ h => h) (Or.inl ⟨by rfl, ?_⟩) hHeld ?_ ?_
            rotate_left
            ·rintro w' ⟨s0, s1, s2, s3, s4, s5⟩
             go_simp
             with_reducible rfl
            rotate_left
            ·simp only [Act.put, zA_, zB_, zC_, i64_w, i32_w]
             rfl
            refine take_ (i := 9) (N := some 111) (v := ?_) (a' := ?_) #[true, true, true, true, true, true, true, true, true, true, false, false, false, false, false, false, false, false, false, false, false, false, false] rfl rfl (take_ofW HT_.out HW_.out (by kernel_rfl)) (fun _ _ _ h => h) (Or.inl ⟨by rfl, ?_⟩) hHeld ?_ ?_
            rotate_left
            ·rintro w' ⟨s0, s1, s2, s3, s4, s5⟩
             go_simp
             with_reducible rfl
            rotate_left
            ·simp only [Act.put, zA_, zB_, zC_, i64_w, i32_w]
             rfl
            refine pure_ (i := 10) (N := some 112) (v := ?_) (a' := ?_) #[true, true, true, true, true, true, true, true, true, true, true, false, false, false, false, false, false, false, false, false, false, false, false] rfl rfl (any_of HT_.out (by kernel_rfl)) (fun _ _ _ h => h) (Or.inl ⟨by rfl, ?_⟩) ?_ ?_
            rotate_left
            ·intro w'
             go_simp
             with_reducible rfl
            rotate_left
            ·simp only [Act.put, zA_, zB_, zC_, i64_w, i32_w]
             rfl
            refine pure_ (i := 11) (N := some 113) (v := ?_) (a' := ?_) #[true, true, true, true, true, true, true, true, true, true, true, true, false, false, false, false, false, false, false, false, false, false, false] rfl rfl (any_of HT_.out (by kernel_rfl)) (fun _ _ _ h => h) (Or.inl ⟨by rfl, ?_⟩) ?_ ?_
            rotate_left
            ·intro w'
             go_simp
             with_reducible rfl
            rotate_left
            ·simp only [Act.put, zA_, zB_, zC_, i64_w, i32_w]
             rfl
            refine pure_ (i := 12) (N := some 114) (v := ?_) (a' := ?_) #[true, true, true, true, true, true, true, true, true, true, true, true, true, false, false, false, false, false, false, false, false, false, false] rfl rfl (any_of HT_.out (by kernel_rfl)) (fun _ _ _ h => h) (Or.inl ⟨by rfl, ?_⟩) ?_ ?_
            rotate_left
            ·intro w'
             go_simp
             with_reducible rfl
            rotate_left
            ·simp only [Act.put, zA_, zB_, zC_, i64_w, i32_w]
             rfl
            refine pure_ (i := 14) (N := some 116) (v := ?_) (a' := ?_) #[true, true, true, true, true, true, true, true, true, true, true, true, true, false, true, false, false, false, false, false, false, false, false] rfl rfl (any_of HT_.out (by kernel_rfl)) (fun _ _ _ h => h) (Or.inl ⟨by rfl, ?_⟩) ?_ ?_
            rotate_left
            ·intro w'
             go_simp
             with_reducible rfl
            rotate_left
            ·simp only [Act.put, zA_, zB_, zC_, i64_w, i32_w]
             rfl
            refine pure_ (i := 16) (N := some 118) (v := ?_) (a' := ?_) #[true, true, true, true, true, true, true, true, true, true, true, true, true, false, true, false, true, false, false, false, false, false, false] rfl rfl (any_of HT_.out (by kernel_rfl)) (fun _ _ _ h => h) (Or.inl ⟨by rfl, ?_⟩) ?_ ?_
            rotate_left
            ·intro w'
             go_simp
             with_reducible rfl
            rotate_left
            ·simp only [Act.put, zA_, zB_, zC_, i64_w, i32_w]
             rfl
            refine take_ (i := 13) (N := some 115) (v := ?_) (a' := ?_) #[true, true, true, true, true, true, true, true, true, true, true, true, true, true, true, false, true, false, false, false, false, false, false] rfl rfl (take_ofW HT_.out HW_.out (by kernel_rfl)) (fun _ _ _ h => h) (Or.inl ⟨by rfl, ?_⟩) hHeld ?_ ?_
            rotate_left
            ·rintro w' ⟨s0, s1, s2, s3, s4, s5⟩
             go_simp
             with_reducible rfl
            rotate_left
            ·simp only [Act.put, zA_, zB_, zC_, i64_w, i32_w]
             rfl
            refine take_ (i := 15) (N := some 117) (v := ?_) (a' := ?_) #[true, true, true, true, true, true, true, true, true, true, true, true, true, true, true, true, true, false, false, false, false, false, false] rfl rfl (take_ofW HT_.out HW_.out (by kernel_rfl)) (fun _ _ _ h => h) (Or.inl ⟨by rfl, ?_⟩) hHeld ?_ ?_
            rotate_left
            ·rintro w' ⟨s0, s1, s2, s3, s4, s5⟩
             go_simp
             with_reducible rfl
            rotate_left
            ·simp only [Act.put, zA_, zB_, zC_, i64_w, i32_w]
             rfl
            refine take_ (i := 17) (N := some 119) (v := ?_) (a' := ?_) #[true, true, true, true, true, true, true, true, true, true, true, true, true, true, true, true, true, true, false, false, false, false, false] rfl rfl (take_ofW HT_.out HW_.out (by kernel_rfl)) (fun _ _ _ h => h) (Or.inl ⟨by rfl, ?_⟩) hHeld ?_ ?_
            rotate_left
            ·rintro w' ⟨s0, s1, s2, s3, s4, s5⟩
             go_simp
             with_reducible rfl
            rotate_left
            ·simp only [Act.put, zA_, zB_, zC_, i64_w, i32_w]
             rfl
            refine one_ (i := 18) (N := some 120) #[true, true, true, true, true, true, true, true, true, true, true, true, true, true, true, true, true, true, true, false, false, false, false] rfl rfl (one_of HT_.out (by kernel_rfl)) (by decide) (fun K hK => ?_)
            refine goes_ Try.func26 (by kernel_rfl) rfl #[.int .i64 t664, .int .i64 t665] (by rfl) rfl rfl (by (try simp only [List.map_toArray, List.map_cons, List.map_nil]); first | done | rfl) ?_
            with_reducible refine (stipendref03_Month.calls t664 t665 t706 _ A62.out).mono ?_
            rintro e w64 ⟨rfl, hb⟩
            refine ⟨_, rfl, ?_⟩
            have n0_ := a0_ (bB_ (g := gb651) (o := .cells #[.int .i64 a1_0, .int .i64 a1_1, .int .i64 a1_2] 23 (0, 0)) (by (with_reducible repeat first | apply bN_ | apply bD_ | apply bA_); exact BK651.out) hb)
            have n1_ := a0_ (bB_ (g := gb680) (o := .cells #[.int .i64 t664, .int .i64 t665, .int .i64 t666] 23 (0, 0)) (by (with_reducible repeat first | apply bN_ | apply bD_ | apply bA_); exact BK680.out) hb)
            have n2_ := a0_ (bB_ (g := gb681) (o := .cells #[.int .i64 t667, .int .i64 t668, .int .i64 t669] 23 (0, 0)) (by (with_reducible repeat first | apply bN_ | apply bD_ | apply bA_); exact BK681.out) hb)
            have n3_ := a0_ (IsS62.below (by repeat (first | (with_reducible first | exact HI662.out | apply sA_ | apply sN_ | apply sD_ | refine sF_ ?_ NB662_651.out _ | refine sF_ ?_ NB662_680.out _ | refine sF_ ?_ NB662_681.out _) | exact HI662.out)) hb)
            have n4_ := a0_ (below_step (by repeat (first | (with_reducible first | exact HB.out | apply lA_ | apply lN_ | apply lD_ | refine lS_ ?_ (sG_ HI662.out) | refine lS_ ?_ GE651.out | refine lS_ ?_ GE680.out | refine lS_ ?_ GE681.out) | exact HB.out)) hb)
            clear BK651
            clear BK680
            clear BK681
            clear HI662
            clear HB
            have BK651 := n0_
            have BK680 := n1_
            have BK681 := n2_
            have HI662 := n3_
            have HB := n4_
            clear n0_ n1_ n2_ n3_ n4_
            (try clear hb)
            (try clear hb2)
            (try clear hk)
            (try clear hi)
            refine hK.out _ _ ⟨(bC_ BK680.out 0).trans rfl, (bC_ BK680.out 1).trans rfl, (bC_ BK680.out 2).trans rfl, (bC_ BK651.out 0).trans rfl, (bC_ BK651.out 1).trans rfl, (bC_ BK651.out 2).trans rfl⟩ (fun hHeld => ?_)
            clear hK K
            refine norm_ (a' := ?_) ?_ ?_
            rotate_left
            ·show Act.put _ (some 120) _ = _
             simp only [Act.put, zA_, zB_, zC_, i64_w, i32_w]
             rfl
            refine pure_ (i := 19) (N := some 121) (v := ?_) (a' := ?_) #[true, true, true, true, true, true, true, true, true, true, true, true, true, true, true, true, true, true, true, true, false, false, false] rfl rfl (any_of HT_.out (by kernel_rfl)) (fun _ _ _ h => h) (Or.inl ⟨by rfl, ?_⟩) ?_ ?_
            rotate_left
            ·intro w'
             go_simp
             with_reducible rfl
            rotate_left
            ·simp only [Act.put, zA_, zB_, zC_, i64_w, i32_w]
             rfl
            refine pure_ (i := 20) (N := some 122) (v := ?_) (a' := ?_) #[true, true, true, true, true, true, true, true, true, true, true, true, true, true, true, true, true, true, true, true, true, false, false] rfl rfl (any_of HT_.out (by kernel_rfl)) (fun _ _ _ h => h) (Or.inl ⟨by rfl, ?_⟩) ?_ ?_
            rotate_left
            ·intro w'
             go_simp
             with_reducible rfl
            rotate_left
            ·simp only [Act.put, zA_, zB_, zC_, i64_w, i32_w]
             rfl
            refine pure_ (i := 21) (N := some 123) (v := ?_) (a' := ?_) #[true, true, true, true, true, true, true, true, true, true, true, true, true, true, true, true, true, true, true, true, true, true, false] rfl rfl (any_of HT_.out (by kernel_rfl)) (fun _ _ _ h => h) (Or.inl ⟨by rfl, ?_⟩) ?_ ?_
            rotate_left
            ·intro w'
             go_simp
             with_reducible rfl
            rotate_left
            ·simp only [Act.put, zA_, zB_, zC_, i64_w, i32_w]
             rfl
            refine pure_ (i := 22) (N := some 6) (v := ?_) (a' := ?_) #[true, true, true, true, true, true, true, true, true, true, true, true, true, true, true, true, true, true, true, true, true, true, true] rfl rfl (any_of HT_.out (by kernel_rfl)) (fun _ _ _ h => h) (Or.inl ⟨by rfl, ?_⟩) ?_ ?_
            rotate_left
            ·intro w'
             go_simp
             with_reducible rfl
            rotate_left
            ·simp only [Act.put, zA_, zB_, zC_, i64_w, i32_w]
             rfl
            refine done_ (done_of HT_.out (by kernel_rfl)) ?_
            try go_wp2
            go_ret
            exact ⟨by first | rfl | (simp [errW_none, errW_some] <;> rfl) | (simp [*, errW_none, errW_some] <;> rfl), by repeat (first | (with_reducible first | exact HB.out | apply lA_ | apply lN_ | apply lD_ | refine lS_ ?_ (sG_ HI662.out) | refine lS_ ?_ GE651.out | refine lS_ ?_ GE680.out | refine lS_ ?_ GE681.out) | exact HB.out)⟩
           ·rw [if_neg c61] at H
            have c61b0 : decide (t666 < a1_2) = false := decide_eq_false c61
            clear c61
            exact absurd H (by simp)
         ·rw [if_neg c58] at H
          have c58b0 : (a0 == 4) = false := beq_eq_false_iff_ne.mpr c58
          have c58b1 : (a0 != 4) = true := bne_iff_ne.mpr c58
          by_cases c65 : 0 ≤ a0
          ·rw [if_pos c65] at H
           have c65b0 : decide (0 ≤ a0) = true := decide_eq_true c65
           clear c65
           by_cases c66 : a0 < 4
           ·rw [if_pos c66] at H
            have c66b0 : decide (a0 < 4) = true := decide_eq_true c66
            try have hix49_ := fun (p0 p1 p2 p3 : Int) (W : World) => ints49_5_at (i := a0) (by first | omega | exact of_decide_eq_true (by assumption)) (of_decide_eq_true c66b0) p0 p1 p2 p3 W
            clear c66
            by_cases c67 : t704 = (wrap64 ((rd ([0, 7, 14, 28] : List Int) a0) - 1))
            ·rw [if_pos c67] at H
             have c67b0 : (t704 == (wrap64 ((rd ([0, 7, 14, 28] : List Int) a0) - 1))) = true := beq_iff_eq.mpr c67
             have c67b1 : (t704 != (wrap64 ((rd ([0, 7, 14, 28] : List Int) a0) - 1))) = false := bne_eq_false_iff_eq.mpr c67
             clear c67
             obtain rfl := Option.some.inj H
             go_wp2
             go_ret
             exact ⟨by first | rfl | (simp [errW_none, errW_some] <;> rfl) | (simp [*, errW_none, errW_some] <;> rfl), by repeat (first | (with_reducible first | exact HB.out | apply lA_ | apply lN_ | apply lD_ | refine lS_ ?_ (sG_ HI662.out) | refine lS_ ?_ GE651.out | refine lS_ ?_ GE680.out | refine lS_ ?_ GE681.out) | exact HB.out)⟩
            ·rw [if_neg c67] at H
             have c67b0 : (t704 == (wrap64 ((rd ([0, 7, 14, 28] : List Int) a0) - 1))) = false := beq_eq_false_iff_ne.mpr c67
             have c67b1 : (t704 != (wrap64 ((rd ([0, 7, 14, 28] : List Int) a0) - 1))) = true := bne_iff_ne.mpr c67
             replace H := oB_ H
             obtain ⟨⟨t707, t708, t709, t710, t711, t712, t713, t714, t715, t716⟩, A680, H⟩ := H
             replace H : (if a2 = t707 then (some (decide (t704 < (rd ([0, 7, 14, 28] : List Int) a0)))) else (none)) = some r := H
             have A68 := a0_ A680
             clear A680
             by_cases c69 : a2 = t707
             ·rw [if_pos c69] at H
              have c69b0 : (a2 == t707) = true := beq_iff_eq.mpr c69
              have c69b1 : (a2 != t707) = false := bne_eq_false_iff_eq.mpr c69
              clear c69
              obtain rfl := Option.some.inj H
              go_wp2_with (first | (go_at_call 24; (with_reducible refine (period_Year_Count.calls g662 x663000_9 x663001_9 x663002_9 x663003_9 x663004_9 x663005_9 x663006_9 x663007_9 x663008_9 t707 t708 t709 t710 t711 t712 t713 t714 t715 t716 w _ ?side1 ?side2 A68.out).mono ?_); (case side1 => repeat (first | (with_reducible first | exact HI662.out | apply sA_ | apply sN_ | apply sD_ | refine sF_ ?_ NB662_651.out _ | refine sF_ ?_ NB662_680.out _ | refine sF_ ?_ NB662_681.out _) | exact HI662.out)); (case side2 => repeat (first | (with_reducible first | exact HB.out | apply lA_ | apply lN_ | apply lD_ | refine lS_ ?_ (sG_ HI662.out) | refine lS_ ?_ GE651.out | refine lS_ ?_ GE680.out | refine lS_ ?_ GE681.out) | exact HB.out)); rintro e w70 ⟨rfl, hi, hb, hk⟩; have n0_ := a0_ (KeepBut.blk hk (g' := gb651) (o := .cells #[.int .i64 a1_0, .int .i64 a1_1, .int .i64 a1_2] 23 (0, 0)) (by (with_reducible repeat first | apply bN_ | apply bD_ | apply bA_); exact BK651.out) NB651_662.out (by simp)); have n1_ := a0_ (KeepBut.blk hk (g' := gb680) (o := .cells #[.int .i64 t664, .int .i64 t665, .int .i64 t666] 23 (0, 0)) (by (with_reducible repeat first | apply bN_ | apply bD_ | apply bA_); exact BK680.out) NB680_662.out (by simp)); have n2_ := a0_ (KeepBut.blk hk (g' := gb681) (o := .cells #[.int .i64 t667, .int .i64 t668, .int .i64 t669] 23 (0, 0)) (by (with_reducible repeat first | apply bN_ | apply bD_ | apply bA_); exact BK681.out) NB681_662.out (by simp)); have n3_ := a0_ (hb); have n4_ := a0_ (hi); clear BK651; clear BK680; clear BK681; clear HB; clear HI662; have BK651 := n0_; have BK680 := n1_; have BK681 := n2_; have HB := n3_; have HI662 := n4_; clear n0_ n1_ n2_ n3_ n4_; (try clear hb); (try clear hb2); (try clear hk); (try clear hi)))
              go_ret
              exact ⟨by first | rfl | (simp [errW_none, errW_some] <;> rfl) | (simp [*, errW_none, errW_some] <;> rfl), by repeat (first | (with_reducible first | exact HB.out | apply lA_ | apply lN_ | apply lD_ | refine lS_ ?_ (sG_ HI662.out) | refine lS_ ?_ GE651.out | refine lS_ ?_ GE680.out | refine lS_ ?_ GE681.out) | exact HB.out)⟩
             ·rw [if_neg c69] at H
              exact absurd H (by simp)
           ·rw [if_neg c66] at H
            exact absurd H (by simp)
          ·rw [if_neg c65] at H
           exact absurd H (by simp)
  ·rw [if_neg c6] at H
   have c6b0 : period_New.made a0 a1_0 a1_1 a1_2 = false := by simpa using c6
   clear c6
   replace H := oB_ H
   obtain ⟨t717, A710, H⟩ := H
   replace H : (some true) = some r := H
   have A71 := a0_ A710
   clear A710
   obtain rfl := Option.some.inj H
   go_enter Try.func5, Try.ntmps5
   go_wp2_with (first | ((with_reducible refine gate_dst (N := 4) rfl ?_); refine box_event ?hg (N := 4) ?hd (cs := #[.int .i64 a1_0, .int .i64 a1_1, .int .i64 a1_2]) (t := 23) ?hr ?_; (case hd => rfl); (case hg => rfl); (case hr => first | (go_simp; done) | (go_simp; rfl)); intro gb651 hg w72 hbox hb; have n0_ := a0_ (below_step (by repeat (first | (with_reducible first | exact HB.out | apply lA_ | apply lN_ | apply lD_) | exact HB.out)) hb); have n1_ := a0_ (hbox); have n2_ := a0_ ((by rw [hg]; exact (below_size (by repeat (first | (with_reducible first | exact HB.out | apply lA_ | apply lN_ | apply lD_) | exact HB.out))) : w.heap.size ≤ gb651)); have n3_ := a0_ ((by rw [hg]; exact (below_size (by repeat (first | (with_reducible first | exact HB.out | apply lA_ | apply lN_ | apply lD_) | exact HB.out))) : w.heap.size ≤ gb651)); clear HB; have HB := n0_; have BK651 := n1_; have GW651 := n2_; have GE651 := n3_; clear n0_ n1_ n2_ n3_; clear hb hbox hg) | ((with_reducible refine gate_callee (f := 20) rfl ?_); refine goesL_ (some 18) rfl rfl Try.func20 (by kernel_rfl) rfl #[] rfl (by (try simp only [List.map_toArray, List.map_cons, List.map_nil]); first | done | rfl) ?_; (with_reducible refine (stipendlaw04_cuts.calls k  true _ A4.out).mono ?_); rintro e w73 ⟨rfl, hb⟩; refine ⟨_, rfl, ?_⟩; have n0_ := a0_ (bB_ (g := gb651) (o := .cells #[.int .i64 a1_0, .int .i64 a1_1, .int .i64 a1_2] 23 (0, 0)) (by (with_reducible repeat first | apply bN_ | apply bD_ | apply bA_); exact BK651.out) hb); have n1_ := a0_ (below_step (by repeat (first | (with_reducible first | exact HB.out | apply lA_ | apply lN_ | apply lD_ | refine lS_ ?_ GE651.out) | exact HB.out)) hb); clear BK651; clear HB; have BK651 := n0_; have HB := n1_; clear n0_ n1_; (try clear hb); (try clear hb2); (try clear hk); (try clear hi); have hcz74_0 : w73.cell? ⟨gb651, 0, none⟩ = some (.int .i64 a1_0) := (bC_ BK651.out 0).trans rfl; have hcz74_1 : w73.cell? ⟨gb651, 1, none⟩ = some (.int .i64 a1_1) := (bC_ BK651.out 1).trans rfl; have hcz74_2 : w73.cell? ⟨gb651, 2, none⟩ = some (.int .i64 a1_2) := (bC_ BK651.out 2).trans rfl; have hfz74_0 := bF_ BK651.out 0; have hfz74_1 := bF_ BK651.out 1; have hfz74_2 := bF_ BK651.out 2) | ((with_reducible refine gate_callee (f := 12) rfl ?_); refine goesL_ (some 23) rfl rfl Try.func12 (by kernel_rfl) rfl #[.int .i64 a0, .agg #[.int .i64 a1_0, .int .i64 a1_1, .int .i64 a1_2]] rfl (by (try simp only [List.map_toArray, List.map_cons, List.map_nil]); first | done | rfl) ?_; (with_reducible refine (period_New_B.calls k a0 a1_0 a1_1 a1_2 t717 _ A71.out).mono ?_); rintro e w75 ⟨rfl, hb⟩; refine ⟨_, rfl, ?_⟩; have n0_ := a0_ (bB_ (g := gb651) (o := .cells #[.int .i64 a1_0, .int .i64 a1_1, .int .i64 a1_2] 23 (0, 0)) (by (with_reducible repeat first | apply bN_ | apply bD_ | apply bA_); exact BK651.out) hb); have n1_ := a0_ (below_step (by repeat (first | (with_reducible first | exact HB.out | apply lA_ | apply lN_ | apply lD_ | refine lS_ ?_ GE651.out) | exact HB.out)) hb); clear BK651; clear HB; have BK651 := n0_; have HB := n1_; clear n0_ n1_; (try clear hb); (try clear hb2); (try clear hk); (try clear hi)))
   go_ret
   exact ⟨by first | rfl | (simp [errW_none, errW_some] <;> rfl) | (simp [*, errW_none, errW_some] <;> rfl), by repeat (first | (with_reducible first | exact HB.out | apply lA_ | apply lN_ | apply lD_ | refine lS_ ?_ GE651.out) | exact HB.out)⟩
 ·replace c5 := Bool.eq_false_iff.mpr c5
  subst c5
  have H1 : (none) = some r := by rw [if_neg (show ¬ (false = true) by decide)] at H; exact H
  clear H
  have H := H1
  clear H1
  exact absurd H (by simp)

/-- THE ONE PURE STATEMENT of stipendlaw04_PeriodWeeks: yours. -/
def stipendlaw04_PeriodWeeks.Pure : Prop := ∀ (a0 : Int) (a1_0 : Int) (a1_1 : Int) (a1_2 : Int) (a2 : Int), (Lit.int .i64 a0).wf = true → (Lit.int .i64 a1_0).wf = true → (Lit.int .i64 a1_1).wf = true → (Lit.int .i64 a1_2).wf = true → (Lit.int .i64 a2).wf = true → ∃ k, stipendlaw04_PeriodWeeks.f k a0 a1_0 a1_1 a1_2 a2 = some true
theorem stipendlaw04_PeriodWeeks.walk (P : stipendlaw04_PeriodWeeks.Pure) (a0 : Int) (a1_0 : Int) (a1_1 : Int) (a1_2 : Int) (a2 : Int) (w : World) (w0 : (Lit.int .i64 a0).wf = true) (w1_0 : (Lit.int .i64 a1_0).wf = true) (w1_1 : (Lit.int .i64 a1_1).wf = true) (w1_2 : (Lit.int .i64 a1_2).wf = true) (w2 : (Lit.int .i64 a2).wf = true) :
  Calls Try.prog 5 #[.int .i64 a0, .agg #[.int .i64 a1_0, .int .i64 a1_1, .int .i64 a1_2], .int .i64 a2] w fun e w' => e = .returned (.bool true) ∧ Below w.heap.size w w' := by
 obtain ⟨k, h⟩ := P a0 a1_0 a1_1 a1_2 a2 w0 w1_0 w1_1 w1_2 w2
 refine (stipendlaw04_PeriodWeeks.calls k a0 a1_0 a1_1 a1_2 a2 true w h).mono ?_
 rintro e w' ⟨rfl, hd⟩
 exact ⟨rfl, hd⟩

end Go.Proofs.Ytojinnnckfimhaa.X
