-- laid by the session's own program (xprint.py) out of Lean's print of the program; Lean checks it
import Derived.Test.YtojinnnckfimhaaX0
import Derived.Test.YtojinnnckfimhaaXdateBetween
import Derived.Test.YtojinnnckfimhaaXperiodNewA
import Derived.Test.YtojinnnckfimhaaXperiodYearStart
import Derived.Test.YtojinnnckfimhaaXperiodlength
import Derived.Test.YtojinnnckfimhaaXperiodYearSpan
import Derived.Test.YtojinnnckfimhaaXstipendlaw04cuts
import Derived.Test.YtojinnnckfimhaaXstipendref03Months
import Derived.Test.YtojinnnckfimhaaXstipendref03Number
import Derived.Test.YtojinnnckfimhaaXdateWeekday
import Derived.Test.YtojinnnckfimhaaXperiodYearPayDay
namespace Go.Proofs.Ytojinnnckfimhaa.X
open Go.RowKit Go.Proofs.YtojinnnckfimhaaW.PrintWords Go.Proofs.YtojinnnckfimhaaW.PrintLast
set_option linter.unusedVariables false
set_option linter.unusedSimpArgs false

/-! ### stipendlaw04_PeriodPays: function 9 -/
mutual
def stipendlaw04_PeriodPays.l0 : Nat → Int → Int → Int → Int → Int → Int → Int → Int → Int → Int → Int → Int → Int → Int → Int → Option (Bool)
 | 0, _, _, _, _, _, _, _, _, _, _, _, _, _, _, _ => none
 | k + 1, x7, x8, x9, x983000, x983001, x983002, x994000, x994001, x994002, x994003, x994004, x994005, x994006, x994007, x994008 => (period_Year_Count.f x994000 x994001 x994002 x994003 x994004 x994005 x994006 x994007 x994008).bind fun bt995 => (if x9 ≤ bt995.1 then ((period_Year_Span.f k bt995.2.1 bt995.2.2.1 bt995.2.2.2.1 bt995.2.2.2.2.1 bt995.2.2.2.2.2.1 bt995.2.2.2.2.2.2.1 bt995.2.2.2.2.2.2.2.1 bt995.2.2.2.2.2.2.2.2.1 bt995.2.2.2.2.2.2.2.2.2 x9).bind fun bt1005 => ((period_Year_PayDay.f k bt1005.2.2.2.2.2.2.2.1 bt1005.2.2.2.2.2.2.2.2.1 bt1005.2.2.2.2.2.2.2.2.2.1 bt1005.2.2.2.2.2.2.2.2.2.2.1 bt1005.2.2.2.2.2.2.2.2.2.2.2.1 bt1005.2.2.2.2.2.2.2.2.2.2.2.2.1 bt1005.2.2.2.2.2.2.2.2.2.2.2.2.2.1 bt1005.2.2.2.2.2.2.2.2.2.2.2.2.2.2.1 bt1005.2.2.2.2.2.2.2.2.2.2.2.2.2.2.2 x9).bind fun bt1023 => ((period_Year_Quarter.f k bt1023.2.2.2.2.1 bt1023.2.2.2.2.2.1 bt1023.2.2.2.2.2.2.1 bt1023.2.2.2.2.2.2.2.1 bt1023.2.2.2.2.2.2.2.2.1 bt1023.2.2.2.2.2.2.2.2.2.1 bt1023.2.2.2.2.2.2.2.2.2.2.1 bt1023.2.2.2.2.2.2.2.2.2.2.2.1 bt1023.2.2.2.2.2.2.2.2.2.2.2.2 x9).bind fun bt1037 => ((period_Year_Days.f k bt1037.2.2.1 bt1037.2.2.2.1 bt1037.2.2.2.2.1 bt1037.2.2.2.2.2.1 bt1037.2.2.2.2.2.2.1 bt1037.2.2.2.2.2.2.2.1 bt1037.2.2.2.2.2.2.2.2.1 bt1037.2.2.2.2.2.2.2.2.2.1 bt1037.2.2.2.2.2.2.2.2.2.2 x9).bind fun bt1048 => (if bt1023.2.2.2.1 = 30 then (if x9 = 1 then (stipendlaw04_PeriodPays.j1 k x7 x8 x9 bt1023.2.2.2.1 bt1037.1 bt1037.2.1 bt1048.1 bt1048.2.1 (bt1005.2.2.2.1 == 1900) x983000 x983001 x983002 bt1048.2.2.1 bt1048.2.2.2.1 bt1048.2.2.2.2.1 bt1048.2.2.2.2.2.1 bt1048.2.2.2.2.2.2.1 bt1048.2.2.2.2.2.2.2.1 bt1048.2.2.2.2.2.2.2.2.1 bt1048.2.2.2.2.2.2.2.2.2.1 bt1048.2.2.2.2.2.2.2.2.2.2 bt1005.2.2.2.1 bt1005.2.2.2.2.1 bt1005.2.2.2.2.2.1 bt1023.1 bt1023.2.1 bt1023.2.2.1) else (stipendlaw04_PeriodPays.j1 k x7 x8 x9 bt1023.2.2.2.1 bt1037.1 bt1037.2.1 bt1048.1 bt1048.2.1 false x983000 x983001 x983002 bt1048.2.2.1 bt1048.2.2.2.1 bt1048.2.2.2.2.1 bt1048.2.2.2.2.2.1 bt1048.2.2.2.2.2.2.1 bt1048.2.2.2.2.2.2.2.1 bt1048.2.2.2.2.2.2.2.2.1 bt1048.2.2.2.2.2.2.2.2.2.1 bt1048.2.2.2.2.2.2.2.2.2.2 bt1005.2.2.2.1 bt1005.2.2.2.2.1 bt1005.2.2.2.2.2.1 bt1023.1 bt1023.2.1 bt1023.2.2.1)) else (stipendlaw04_PeriodPays.j1 k x7 x8 x9 bt1023.2.2.2.1 bt1037.1 bt1037.2.1 bt1048.1 bt1048.2.1 false x983000 x983001 x983002 bt1048.2.2.1 bt1048.2.2.2.1 bt1048.2.2.2.2.1 bt1048.2.2.2.2.2.1 bt1048.2.2.2.2.2.2.1 bt1048.2.2.2.2.2.2.2.1 bt1048.2.2.2.2.2.2.2.2.1 bt1048.2.2.2.2.2.2.2.2.2.1 bt1048.2.2.2.2.2.2.2.2.2.2 bt1005.2.2.2.1 bt1005.2.2.2.2.1 bt1005.2.2.2.2.2.1 bt1023.1 bt1023.2.1 bt1023.2.2.1)))))) else ((period_Year_Start.f bt995.2.1 bt995.2.2.1 bt995.2.2.2.1 bt995.2.2.2.2.1 bt995.2.2.2.2.2.1 bt995.2.2.2.2.2.2.1 bt995.2.2.2.2.2.2.2.1 bt995.2.2.2.2.2.2.2.2.1 bt995.2.2.2.2.2.2.2.2.2).bind fun bt1076 => ((period_Year_End.f bt1076.2.2.2.1 bt1076.2.2.2.2.1 bt1076.2.2.2.2.2.1 bt1076.2.2.2.2.2.2.1 bt1076.2.2.2.2.2.2.2.1 bt1076.2.2.2.2.2.2.2.2.1 bt1076.2.2.2.2.2.2.2.2.2.1 bt1076.2.2.2.2.2.2.2.2.2.2.1 bt1076.2.2.2.2.2.2.2.2.2.2.2).bind fun bt1088 => ((date_Between.f k bt1076.1 bt1076.2.1 bt1076.2.2.1 bt1088.1 bt1088.2.1 bt1088.2.2.1).bind fun bt1100 => ((period_Year_PayDay.f k bt1088.2.2.2.1 bt1088.2.2.2.2.1 bt1088.2.2.2.2.2.1 bt1088.2.2.2.2.2.2.1 bt1088.2.2.2.2.2.2.2.1 bt1088.2.2.2.2.2.2.2.2.1 bt1088.2.2.2.2.2.2.2.2.2.1 bt1088.2.2.2.2.2.2.2.2.2.2.1 bt1088.2.2.2.2.2.2.2.2.2.2.2 0).bind fun bt1102 => ((period_Year_Count.f bt1102.2.2.2.2.1 bt1102.2.2.2.2.2.1 bt1102.2.2.2.2.2.2.1 bt1102.2.2.2.2.2.2.2.1 bt1102.2.2.2.2.2.2.2.2.1 bt1102.2.2.2.2.2.2.2.2.2.1 bt1102.2.2.2.2.2.2.2.2.2.2.1 bt1102.2.2.2.2.2.2.2.2.2.2.2.1 bt1102.2.2.2.2.2.2.2.2.2.2.2.2).bind fun bt1116 => ((period_Year_Quarter.f k bt1116.2.1 bt1116.2.2.1 bt1116.2.2.2.1 bt1116.2.2.2.2.1 bt1116.2.2.2.2.2.1 bt1116.2.2.2.2.2.2.1 bt1116.2.2.2.2.2.2.2.1 bt1116.2.2.2.2.2.2.2.2.1 bt1116.2.2.2.2.2.2.2.2.2 (wrap64 (bt1116.1 + 1))).bind fun bt1126 => ((period_Year_Days.f k bt1126.2.2.1 bt1126.2.2.2.1 bt1126.2.2.2.2.1 bt1126.2.2.2.2.2.1 bt1126.2.2.2.2.2.2.1 bt1126.2.2.2.2.2.2.2.1 bt1126.2.2.2.2.2.2.2.2.1 bt1126.2.2.2.2.2.2.2.2.2.1 bt1126.2.2.2.2.2.2.2.2.2.2 (-1)).bind fun bt1137 => (if x7 = (wrap64 (bt1100.1 + 1)) then (if x8 = 4 then (if bt1102.2.2.2.1 = 1 then (if bt1126.2.1 = 1 then (some (bt1137.2.1 == 1)) else (none)) else (none)) else (none)) else (none))))))))))
def stipendlaw04_PeriodPays.j1 : Nat → Int → Int → Int → Int → Int → Int → Int → Int → Bool → Int → Int → Int → Int → Int → Int → Int → Int → Int → Int → Int → Int → Int → Int → Int → Int → Int → Int → Option (Bool)
 | 0, _, _, _, _, _, _, _, _, _, _, _, _, _, _, _, _, _, _, _, _, _, _, _, _, _, _, _ => none
 | k + 1, x7, x8, x9, x14, x15, x16, x17, x18, x84, x983000, x983001, x983002, x994000, x994001, x994002, x994003, x994004, x994005, x994006, x994007, x994008, x1023000, x1023001, x1023002, x1037000, x1037001, x1037002 => if x84 = true then (stipendlaw04_PeriodPays.l0 k x7 x8 (wrap64 (x9 + 1)) x983000 x983001 x983002 x994000 x994001 x994002 x994003 x994004 x994005 x994006 x994007 x994008) else ((date_Between.f k x1037000 x1037001 x1037002 x1023000 x1023001 x1023002).bind fun bt1059 => (if (wrap64 ((wrap64 ((wrap64 (x14 + x16)) + x18)) + bt1059.2)) = 0 then ((date_Workday.f k x1037000 x1037001 x1037002).bind fun t1061 => (if t1061 = true then (if bt1059.1 < 0 then (stipendlaw04_PeriodPays.j2 k x7 x9 x15 x17 true x983000 x983001 x983002 x994000 x994001 x994002 x994003 x994004 x994005 x994006 x994007 x994008 x1023000 x1023001 x1023002) else (if bt1059.1 > 2 then (stipendlaw04_PeriodPays.j2 k x7 x9 x15 x17 true x983000 x983001 x983002 x994000 x994001 x994002 x994003 x994004 x994005 x994006 x994007 x994008 x1023000 x1023001 x1023002) else (if x15 < x8 then (stipendlaw04_PeriodPays.j2 k x7 x9 x15 x17 true x983000 x983001 x983002 x994000 x994001 x994002 x994003 x994004 x994005 x994006 x994007 x994008 x1023000 x1023001 x1023002) else (if x15 > 4 then (stipendlaw04_PeriodPays.j2 k x7 x9 x15 x17 true x983000 x983001 x983002 x994000 x994001 x994002 x994003 x994004 x994005 x994006 x994007 x994008 x1023000 x1023001 x1023002) else (stipendlaw04_PeriodPays.j2 k x7 x9 x15 x17 (decide (x17 < 1)) x983000 x983001 x983002 x994000 x994001 x994002 x994003 x994004 x994005 x994006 x994007 x994008 x1023000 x1023001 x1023002))))) else (stipendlaw04_PeriodPays.j2 k x7 x9 x15 x17 true x983000 x983001 x983002 x994000 x994001 x994002 x994003 x994004 x994005 x994006 x994007 x994008 x1023000 x1023001 x1023002))) else (stipendlaw04_PeriodPays.j2 k x7 x9 x15 x17 true x983000 x983001 x983002 x994000 x994001 x994002 x994003 x994004 x994005 x994006 x994007 x994008 x1023000 x1023001 x1023002)))
def stipendlaw04_PeriodPays.j2 : Nat → Int → Int → Int → Int → Bool → Int → Int → Int → Int → Int → Int → Int → Int → Int → Int → Int → Int → Int → Int → Int → Option (Bool)
 | 0, _, _, _, _, _, _, _, _, _, _, _, _, _, _, _, _, _, _, _, _ => none
 | k + 1, x7, x9, x15, x17, x124, x983000, x983001, x983002, x994000, x994001, x994002, x994003, x994004, x994005, x994006, x994007, x994008, x1023000, x1023001, x1023002 => if x124 = true then (none) else ((stipendref03_Months.f k x983000 x983001 x983002 (wrap64 (3 * (wrap64 (x15 - 1))))).bind fun bt1062 => ((stipendref03_Months.f k x983000 x983001 x983002 (wrap64 (3 * x15))).bind fun bt1067 => ((stipendref03_Number.f k bt1062.1 bt1062.2.1 bt1062.2.2.1).bind fun t1072 => ((stipendref03_Number.f k x1023000 x1023001 x1023002).bind fun t1073 => (if t1072 > t1073 then (stipendlaw04_PeriodPays.j3 k x7 x9 x15 x17 true x983000 x983001 x983002 x994000 x994001 x994002 x994003 x994004 x994005 x994006 x994007 x994008) else (if bt1067.2.2.2 = true then (if x15 < 4 then ((stipendref03_Number.f k bt1067.1 bt1067.2.1 bt1067.2.2.1).bind fun t1074 => ((stipendref03_Number.f k x1023000 x1023001 x1023002).bind fun t1075 => (stipendlaw04_PeriodPays.j3 k x7 x9 x15 x17 (decide (t1074 ≤ t1075)) x983000 x983001 x983002 x994000 x994001 x994002 x994003 x994004 x994005 x994006 x994007 x994008))) else (stipendlaw04_PeriodPays.j3 k x7 x9 x15 x17 false x983000 x983001 x983002 x994000 x994001 x994002 x994003 x994004 x994005 x994006 x994007 x994008)) else (stipendlaw04_PeriodPays.j3 k x7 x9 x15 x17 false x983000 x983001 x983002 x994000 x994001 x994002 x994003 x994004 x994005 x994006 x994007 x994008)))))))
def stipendlaw04_PeriodPays.j3 : Nat → Int → Int → Int → Int → Bool → Int → Int → Int → Int → Int → Int → Int → Int → Int → Int → Int → Int → Option (Bool)
 | 0, _, _, _, _, _, _, _, _, _, _, _, _, _, _, _, _, _ => none
 | k + 1, x7, x9, x15, x17, x158, x983000, x983001, x983002, x994000, x994001, x994002, x994003, x994004, x994005, x994006, x994007, x994008 => if x158 = true then (none) else (stipendlaw04_PeriodPays.l0 k (wrap64 (x7 + x17)) x15 (wrap64 (x9 + 1)) x983000 x983001 x983002 x994000 x994001 x994002 x994003 x994004 x994005 x994006 x994007 x994008)
end
def stipendlaw04_PeriodPays.f (k : Nat) (a0 : Int) (a1_0 : Int) (a1_1 : Int) (a1_2 : Int) : Option (Bool) := (stipendlaw04_cuts.f k).bind fun t983 => (if t983 = true then (if period_New.made a0 a1_0 a1_1 a1_2 = true then ((period_New_A.f k a0 a1_0 a1_1 a1_2).bind fun bt984 => (stipendlaw04_PeriodPays.l0 k 0 1 1 a1_0 a1_1 a1_2 bt984.1 bt984.2.1 bt984.2.2.1 bt984.2.2.2.1 bt984.2.2.2.2.1 bt984.2.2.2.2.2.1 bt984.2.2.2.2.2.2.1 bt984.2.2.2.2.2.2.2.1 bt984.2.2.2.2.2.2.2.2.1)) else ((period_New_B.f k a0 a1_0 a1_1 a1_2).bind fun t1148 => (some true))) else (none))
def stipendlaw04_PeriodPays.T20 : Bool × List (List Nat × List Nat) := (true, [([], []), ([0], [0]), ([], []), ([2, 1], [2]), ([1, 3], [1, 3]), ([4, 3], [4]), ([5], [5]), ([6, 5, 5], [5, 6]), ([7], [7]), ([8, 7], [7, 8]), ([7, 9, 5], [5, 7, 9]), ([10, 7, 5], [5, 10]), ([11], [11]), ([12, 11, 11], [11, 12]), ([11], [11]), ([14, 13, 11], [11, 14]), ([13, 15, 11], [11, 13, 15]), ([11, 16, 5], [5, 11, 16]), ([5, 17], [5, 17])])
def stipendlaw04_PeriodPays.B20 : List Nat := [0, 1, 0, 7, 15, 31, 63, 127, 255, 511, 1023, 2047, 4095, 8191, 4095, 32767, 65535, 131071, 262143]
theorem stipendlaw04_PeriodPays.tab20 : rtab .any (opsOf Try.f9 20) = stipendlaw04_PeriodPays.T20 := by kernel_rfl
theorem stipendlaw04_PeriodPays.bits20 : waitsOk stipendlaw04_PeriodPays.T20.2 stipendlaw04_PeriodPays.B20 = true := by kernel_rfl
set_option maxHeartbeats 8000000 in
set_option maxRecDepth 100000 in
theorem stipendlaw04_PeriodPays.calls (k : Nat) (a0 : Int) (a1_0 : Int) (a1_1 : Int) (a1_2 : Int) (r : Bool) (w : World) (h : stipendlaw04_PeriodPays.f k a0 a1_0 a1_1 a1_2 = some r) :
  Calls Try.prog 9 #[.int .i64 a0, .agg #[.int .i64 a1_0, .int .i64 a1_1, .int .i64 a1_2]] w fun e w' => e = .returned (.bool r) ∧ Below w.heap.size w w' := by
 have hu23 := Try.underlying23
 have HB := a0_ (Below.refl w.heap.size w)
 have H : ((stipendlaw04_cuts.f k).bind fun t983 => (if t983 = true then (if period_New.made a0 a1_0 a1_1 a1_2 = true then ((period_New_A.f k a0 a1_0 a1_1 a1_2).bind fun bt984 => (stipendlaw04_PeriodPays.l0 k 0 1 1 a1_0 a1_1 a1_2 bt984.1 bt984.2.1 bt984.2.2.1 bt984.2.2.2.1 bt984.2.2.2.2.1 bt984.2.2.2.2.2.1 bt984.2.2.2.2.2.2.1 bt984.2.2.2.2.2.2.2.1 bt984.2.2.2.2.2.2.2.2.1)) else ((period_New_B.f k a0 a1_0 a1_1 a1_2).bind fun t1148 => (some true))) else (none))) = some r := h
 clear h
 replace H := oB_ H
 obtain ⟨t983, A30, H⟩ := H
 replace H : (if t983 = true then (if period_New.made a0 a1_0 a1_1 a1_2 = true then ((period_New_A.f k a0 a1_0 a1_1 a1_2).bind fun bt984 => (stipendlaw04_PeriodPays.l0 k 0 1 1 a1_0 a1_1 a1_2 bt984.1 bt984.2.1 bt984.2.2.1 bt984.2.2.2.1 bt984.2.2.2.2.1 bt984.2.2.2.2.2.1 bt984.2.2.2.2.2.2.1 bt984.2.2.2.2.2.2.2.1 bt984.2.2.2.2.2.2.2.2.1)) else ((period_New_B.f k a0 a1_0 a1_1 a1_2).bind fun t1148 => (some true))) else (none)) = some r := H
 have A3 := a0_ A30
 clear A30
 by_cases c4 : t983 = true
 ·subst c4
  have H1 : (if period_New.made a0 a1_0 a1_1 a1_2 = true then ((period_New_A.f k a0 a1_0 a1_1 a1_2).bind fun bt984 => (stipendlaw04_PeriodPays.l0 k 0 1 1 a1_0 a1_1 a1_2 bt984.1 bt984.2.1 bt984.2.2.1 bt984.2.2.2.1 bt984.2.2.2.2.1 bt984.2.2.2.2.2.1 bt984.2.2.2.2.2.2.1 bt984.2.2.2.2.2.2.2.1 bt984.2.2.2.2.2.2.2.2.1)) else ((period_New_B.f k a0 a1_0 a1_1 a1_2).bind fun t1148 => (some true))) = some r := by rw [if_pos rfl] at H; exact H
  clear H
  have H := H1
  clear H1
  by_cases c5 : period_New.made a0 a1_0 a1_1 a1_2 = true
  ·rw [if_pos c5] at H
   have c5b0 : period_New.made a0 a1_0 a1_1 a1_2 = true := c5
   clear c5
   replace H := oB_ H
   obtain ⟨⟨t984, t985, t986, t987, t988, t989, t990, t991, t992, t994⟩, A60, H⟩ := H
   replace H : (stipendlaw04_PeriodPays.l0 k 0 1 1 a1_0 a1_1 a1_2 t984 t985 t986 t987 t988 t989 t990 t991 t992) = some r := H
   have A6 := a0_ A60
   clear A60
   have H' := a0_ H
   clear H
   go_enter Try.func9, Try.ntmps9
   go_wp2_with (first | ((with_reducible refine gate_dst (N := 3) rfl ?_); refine box_event ?hg (N := 3) ?hd (cs := #[.int .i64 a1_0, .int .i64 a1_1, .int .i64 a1_2]) (t := 23) ?hr ?_; (case hd => rfl); (case hg => rfl); (case hr => first | (go_simp; done) | (go_simp; rfl)); intro gb982 hg w7 hbox hb; have n0_ := a0_ (below_step (by repeat (first | (with_reducible first | exact HB.out | apply lA_ | apply lN_ | apply lD_) | exact HB.out)) hb); have n1_ := a0_ (hbox); have n2_ := a0_ ((by rw [hg]; exact (below_size (by repeat (first | (with_reducible first | exact HB.out | apply lA_ | apply lN_ | apply lD_) | exact HB.out))) : w.heap.size ≤ gb982)); have n3_ := a0_ ((by rw [hg]; exact (below_size (by repeat (first | (with_reducible first | exact HB.out | apply lA_ | apply lN_ | apply lD_) | exact HB.out))) : w.heap.size ≤ gb982)); clear HB; have HB := n0_; have BK982 := n1_; have GW982 := n2_; have GE982 := n3_; clear n0_ n1_ n2_ n3_; clear hb hbox hg) | ((with_reducible refine gate_callee (f := 20) rfl ?_); refine goesL_ (some 33) rfl rfl Try.func20 (by kernel_rfl) rfl #[] rfl (by (try simp only [List.map_toArray, List.map_cons, List.map_nil]); first | done | rfl) ?_; (with_reducible refine (stipendlaw04_cuts.calls k  true _ A3.out).mono ?_); rintro e w8 ⟨rfl, hb⟩; refine ⟨_, rfl, ?_⟩; have n0_ := a0_ (bB_ (g := gb982) (o := .cells #[.int .i64 a1_0, .int .i64 a1_1, .int .i64 a1_2] 23 (0, 0)) (by (with_reducible repeat first | apply bN_ | apply bD_ | apply bA_); exact BK982.out) hb); have n1_ := a0_ (below_step (by repeat (first | (with_reducible first | exact HB.out | apply lA_ | apply lN_ | apply lD_ | refine lS_ ?_ GE982.out) | exact HB.out)) hb); clear BK982; clear HB; have BK982 := n0_; have HB := n1_; clear n0_ n1_; (try clear hb); (try clear hb2); (try clear hk); (try clear hi); have hcz9_0 : w8.cell? ⟨gb982, 0, none⟩ = some (.int .i64 a1_0) := (bC_ BK982.out 0).trans rfl; have hcz9_1 : w8.cell? ⟨gb982, 1, none⟩ = some (.int .i64 a1_1) := (bC_ BK982.out 1).trans rfl; have hcz9_2 : w8.cell? ⟨gb982, 2, none⟩ = some (.int .i64 a1_2) := (bC_ BK982.out 2).trans rfl; have hfz9_0 := bF_ BK982.out 0; have hfz9_1 := bF_ BK982.out 1; have hfz9_2 := bF_ BK982.out 2) | ((with_reducible refine gate_callee (f := 12) rfl ?_); refine goesL_ (some 38) rfl rfl Try.func12 (by kernel_rfl) rfl #[.int .i64 a0, .agg #[.int .i64 a1_0, .int .i64 a1_1, .int .i64 a1_2]] rfl (by (try simp only [List.map_toArray, List.map_cons, List.map_nil]); first | done | rfl) ?_; (with_reducible refine (period_New_A.calls k a0 a1_0 a1_1 a1_2 t984 t985 t986 t987 t988 t989 t990 t991 t992 t994 w _ ?side1 A6.out).mono ?_); (case side1 => repeat (first | (with_reducible first | exact HB.out | apply lA_ | apply lN_ | apply lD_ | refine lS_ ?_ GE982.out) | exact HB.out)); rintro e w10 ⟨g993, rfl, hi, hb, hb2, hge⟩; refine ⟨_, rfl, ?_⟩; have n0_ := a0_ (bB_ (g := gb982) (o := .cells #[.int .i64 a1_0, .int .i64 a1_1, .int .i64 a1_2] 23 (0, 0)) (by (with_reducible repeat first | apply bN_ | apply bD_ | apply bA_); exact BK982.out) hb2); have n1_ := a0_ (hb); have n2_ := a0_ (hi); have n3_ := a0_ (IsS62.ne_blk hi (bB_ (g := gb982) (o := .cells #[.int .i64 a1_0, .int .i64 a1_1, .int .i64 a1_2] 23 (0, 0)) (by (with_reducible repeat first | apply bN_ | apply bD_ | apply bA_); exact BK982.out) hb2) (by decide)); have n4_ := a0_ (Ne.symm (IsS62.ne_blk hi (bB_ (g := gb982) (o := .cells #[.int .i64 a1_0, .int .i64 a1_1, .int .i64 a1_2] 23 (0, 0)) (by (with_reducible repeat first | apply bN_ | apply bD_ | apply bA_); exact BK982.out) hb2) (by decide))); clear BK982; clear HB; have BK982 := n0_; have HB := n1_; have HI993 := n2_; have NB993_982 := n3_; have NB982_993 := n4_; clear n0_ n1_ n2_ n3_ n4_; (try clear hb); (try clear hb2); (try clear hk); (try clear hi)))
   go_loopg [7, 8, 9] k (fun kq v7 v8 v9 w' => ∃ (x7_1 : Int) (x8_1 : Int) (x9_1 : Int) (x994000_1 : Int) (x994001_1 : Int) (x994002_1 : Int) (x994003_1 : Int) (x994004_1 : Int) (x994005_1 : Int) (x994006_1 : Int) (x994007_1 : Int) (x994008_1 : Int), v7 = .int .i64 x7_1 ∧ v8 = .int .i64 x8_1 ∧ v9 = .int .i64 x9_1 ∧ Aside0 (stipendlaw04_PeriodPays.l0 kq x7_1 x8_1 x9_1 a1_0 a1_1 a1_2 x994000_1 x994001_1 x994002_1 x994003_1 x994004_1 x994005_1 x994006_1 x994007_1 x994008_1 = some r) ∧ Aside0 (kq ≤ k) ∧ Aside0 (w'.heap[gb982]? = some (.cells #[.int .i64 a1_0, .int .i64 a1_1, .int .i64 a1_2] 23 (0, 0))) ∧ Aside0 (IsS62 w w' g993 x994000_1 x994001_1 x994002_1 x994003_1 x994004_1 x994005_1 x994006_1 x994007_1 x994008_1) ∧ Aside0 (Below w.heap.size w w'))
   case atStart => exact ⟨(0), (1), (1), (t984), (t985), (t986), (t987), (t988), (t989), (t990), (t991), (t992), (by first | rfl | (simp; done) | (simp [*]; done)), (by first | rfl | (simp; done) | (simp [*]; done)), (by first | rfl | (simp; done) | (simp [*]; done)), H', ⟨Nat.le_refl _⟩, ⟨by (with_reducible repeat first | apply bN_ | apply bD_ | apply bA_); exact BK982.out⟩, ⟨by repeat (first | (with_reducible first | exact HI993.out | apply sA_ | apply sN_ | apply sD_ | refine sF_ ?_ NB993_982.out _) | exact HI993.out)⟩, ⟨by repeat (first | (with_reducible first | exact HB.out | apply lA_ | apply lN_ | apply lD_ | refine lS_ ?_ (sG_ HI993.out) | refine lS_ ?_ GE982.out) | exact HB.out)⟩⟩
   case round =>
    clear H'
    try clear c4
    try clear c5
    try clear c5b0
    try clear hcz9_0
    try clear hcz9_1
    try clear hcz9_2
    try clear hfz9_0
    try clear hfz9_1
    try clear hfz9_2
    obtain ⟨x7_1, x8_1, x9_1, x994000_1, x994001_1, x994002_1, x994003_1, x994004_1, x994005_1, x994006_1, x994007_1, x994008_1, rfl, rfl, rfl, HA, HK1, BK982, HI993, HB⟩ := hrel
    cases gk with
    | zero => exact absurd HA.out (by simp [stipendlaw04_PeriodPays.l0])
    | succ k1 =>
     have H := HA.out
     clear HA
     simp only [stipendlaw04_PeriodPays.l0] at H
     replace H := oB_ H
     obtain ⟨⟨t995, t996, t997, t998, t999, t1000, t1001, t1002, t1003, t1004⟩, A110, H⟩ := H
     replace H : (if x9_1 ≤ t995 then ((period_Year_Span.f k1 t996 t997 t998 t999 t1000 t1001 t1002 t1003 t1004 x9_1).bind fun bt1005 => ((period_Year_PayDay.f k1 bt1005.2.2.2.2.2.2.2.1 bt1005.2.2.2.2.2.2.2.2.1 bt1005.2.2.2.2.2.2.2.2.2.1 bt1005.2.2.2.2.2.2.2.2.2.2.1 bt1005.2.2.2.2.2.2.2.2.2.2.2.1 bt1005.2.2.2.2.2.2.2.2.2.2.2.2.1 bt1005.2.2.2.2.2.2.2.2.2.2.2.2.2.1 bt1005.2.2.2.2.2.2.2.2.2.2.2.2.2.2.1 bt1005.2.2.2.2.2.2.2.2.2.2.2.2.2.2.2 x9_1).bind fun bt1023 => ((period_Year_Quarter.f k1 bt1023.2.2.2.2.1 bt1023.2.2.2.2.2.1 bt1023.2.2.2.2.2.2.1 bt1023.2.2.2.2.2.2.2.1 bt1023.2.2.2.2.2.2.2.2.1 bt1023.2.2.2.2.2.2.2.2.2.1 bt1023.2.2.2.2.2.2.2.2.2.2.1 bt1023.2.2.2.2.2.2.2.2.2.2.2.1 bt1023.2.2.2.2.2.2.2.2.2.2.2.2 x9_1).bind fun bt1037 => ((period_Year_Days.f k1 bt1037.2.2.1 bt1037.2.2.2.1 bt1037.2.2.2.2.1 bt1037.2.2.2.2.2.1 bt1037.2.2.2.2.2.2.1 bt1037.2.2.2.2.2.2.2.1 bt1037.2.2.2.2.2.2.2.2.1 bt1037.2.2.2.2.2.2.2.2.2.1 bt1037.2.2.2.2.2.2.2.2.2.2 x9_1).bind fun bt1048 => (if bt1023.2.2.2.1 = 30 then (if x9_1 = 1 then (stipendlaw04_PeriodPays.j1 k1 x7_1 x8_1 x9_1 bt1023.2.2.2.1 bt1037.1 bt1037.2.1 bt1048.1 bt1048.2.1 (bt1005.2.2.2.1 == 1900) a1_0 a1_1 a1_2 bt1048.2.2.1 bt1048.2.2.2.1 bt1048.2.2.2.2.1 bt1048.2.2.2.2.2.1 bt1048.2.2.2.2.2.2.1 bt1048.2.2.2.2.2.2.2.1 bt1048.2.2.2.2.2.2.2.2.1 bt1048.2.2.2.2.2.2.2.2.2.1 bt1048.2.2.2.2.2.2.2.2.2.2 bt1005.2.2.2.1 bt1005.2.2.2.2.1 bt1005.2.2.2.2.2.1 bt1023.1 bt1023.2.1 bt1023.2.2.1) else (stipendlaw04_PeriodPays.j1 k1 x7_1 x8_1 x9_1 bt1023.2.2.2.1 bt1037.1 bt1037.2.1 bt1048.1 bt1048.2.1 false a1_0 a1_1 a1_2 bt1048.2.2.1 bt1048.2.2.2.1 bt1048.2.2.2.2.1 bt1048.2.2.2.2.2.1 bt1048.2.2.2.2.2.2.1 bt1048.2.2.2.2.2.2.2.1 bt1048.2.2.2.2.2.2.2.2.1 bt1048.2.2.2.2.2.2.2.2.2.1 bt1048.2.2.2.2.2.2.2.2.2.2 bt1005.2.2.2.1 bt1005.2.2.2.2.1 bt1005.2.2.2.2.2.1 bt1023.1 bt1023.2.1 bt1023.2.2.1)) else (stipendlaw04_PeriodPays.j1 k1 x7_1 x8_1 x9_1 bt1023.2.2.2.1 bt1037.1 bt1037.2.1 bt1048.1 bt1048.2.1 false a1_0 a1_1 a1_2 bt1048.2.2.1 bt1048.2.2.2.1 bt1048.2.2.2.2.1 bt1048.2.2.2.2.2.1 bt1048.2.2.2.2.2.2.1 bt1048.2.2.2.2.2.2.2.1 bt1048.2.2.2.2.2.2.2.2.1 bt1048.2.2.2.2.2.2.2.2.2.1 bt1048.2.2.2.2.2.2.2.2.2.2 bt1005.2.2.2.1 bt1005.2.2.2.2.1 bt1005.2.2.2.2.2.1 bt1023.1 bt1023.2.1 bt1023.2.2.1)))))) else ((period_Year_Start.f t996 t997 t998 t999 t1000 t1001 t1002 t1003 t1004).bind fun bt1076 => ((period_Year_End.f bt1076.2.2.2.1 bt1076.2.2.2.2.1 bt1076.2.2.2.2.2.1 bt1076.2.2.2.2.2.2.1 bt1076.2.2.2.2.2.2.2.1 bt1076.2.2.2.2.2.2.2.2.1 bt1076.2.2.2.2.2.2.2.2.2.1 bt1076.2.2.2.2.2.2.2.2.2.2.1 bt1076.2.2.2.2.2.2.2.2.2.2.2).bind fun bt1088 => ((date_Between.f k1 bt1076.1 bt1076.2.1 bt1076.2.2.1 bt1088.1 bt1088.2.1 bt1088.2.2.1).bind fun bt1100 => ((period_Year_PayDay.f k1 bt1088.2.2.2.1 bt1088.2.2.2.2.1 bt1088.2.2.2.2.2.1 bt1088.2.2.2.2.2.2.1 bt1088.2.2.2.2.2.2.2.1 bt1088.2.2.2.2.2.2.2.2.1 bt1088.2.2.2.2.2.2.2.2.2.1 bt1088.2.2.2.2.2.2.2.2.2.2.1 bt1088.2.2.2.2.2.2.2.2.2.2.2 0).bind fun bt1102 => ((period_Year_Count.f bt1102.2.2.2.2.1 bt1102.2.2.2.2.2.1 bt1102.2.2.2.2.2.2.1 bt1102.2.2.2.2.2.2.2.1 bt1102.2.2.2.2.2.2.2.2.1 bt1102.2.2.2.2.2.2.2.2.2.1 bt1102.2.2.2.2.2.2.2.2.2.2.1 bt1102.2.2.2.2.2.2.2.2.2.2.2.1 bt1102.2.2.2.2.2.2.2.2.2.2.2.2).bind fun bt1116 => ((period_Year_Quarter.f k1 bt1116.2.1 bt1116.2.2.1 bt1116.2.2.2.1 bt1116.2.2.2.2.1 bt1116.2.2.2.2.2.1 bt1116.2.2.2.2.2.2.1 bt1116.2.2.2.2.2.2.2.1 bt1116.2.2.2.2.2.2.2.2.1 bt1116.2.2.2.2.2.2.2.2.2 (wrap64 (bt1116.1 + 1))).bind fun bt1126 => ((period_Year_Days.f k1 bt1126.2.2.1 bt1126.2.2.2.1 bt1126.2.2.2.2.1 bt1126.2.2.2.2.2.1 bt1126.2.2.2.2.2.2.1 bt1126.2.2.2.2.2.2.2.1 bt1126.2.2.2.2.2.2.2.2.1 bt1126.2.2.2.2.2.2.2.2.2.1 bt1126.2.2.2.2.2.2.2.2.2.2 (-1)).bind fun bt1137 => (if x7_1 = (wrap64 (bt1100.1 + 1)) then (if x8_1 = 4 then (if bt1102.2.2.2.1 = 1 then (if bt1126.2.1 = 1 then (some (bt1137.2.1 == 1)) else (none)) else (none)) else (none)) else (none)))))))))) = some r := H
     have A11 := a0_ A110
     clear A110
     by_cases c12 : x9_1 ≤ t995
     ·rw [if_pos c12] at H
      have c12b0 : decide (x9_1 ≤ t995) = true := decide_eq_true c12
      clear c12
      replace H := oB_ H
      obtain ⟨⟨t1005, t1006, t1007, t1008, t1009, t1010, t1011, t1012, t1013, t1014, t1015, t1016, t1017, t1018, t1019, t1020⟩, A130, H⟩ := H
      replace H : ((period_Year_PayDay.f k1 t1012 t1013 t1014 t1015 t1016 t1017 t1018 t1019 t1020 x9_1).bind fun bt1023 => ((period_Year_Quarter.f k1 bt1023.2.2.2.2.1 bt1023.2.2.2.2.2.1 bt1023.2.2.2.2.2.2.1 bt1023.2.2.2.2.2.2.2.1 bt1023.2.2.2.2.2.2.2.2.1 bt1023.2.2.2.2.2.2.2.2.2.1 bt1023.2.2.2.2.2.2.2.2.2.2.1 bt1023.2.2.2.2.2.2.2.2.2.2.2.1 bt1023.2.2.2.2.2.2.2.2.2.2.2.2 x9_1).bind fun bt1037 => ((period_Year_Days.f k1 bt1037.2.2.1 bt1037.2.2.2.1 bt1037.2.2.2.2.1 bt1037.2.2.2.2.2.1 bt1037.2.2.2.2.2.2.1 bt1037.2.2.2.2.2.2.2.1 bt1037.2.2.2.2.2.2.2.2.1 bt1037.2.2.2.2.2.2.2.2.2.1 bt1037.2.2.2.2.2.2.2.2.2.2 x9_1).bind fun bt1048 => (if bt1023.2.2.2.1 = 30 then (if x9_1 = 1 then (stipendlaw04_PeriodPays.j1 k1 x7_1 x8_1 x9_1 bt1023.2.2.2.1 bt1037.1 bt1037.2.1 bt1048.1 bt1048.2.1 (t1008 == 1900) a1_0 a1_1 a1_2 bt1048.2.2.1 bt1048.2.2.2.1 bt1048.2.2.2.2.1 bt1048.2.2.2.2.2.1 bt1048.2.2.2.2.2.2.1 bt1048.2.2.2.2.2.2.2.1 bt1048.2.2.2.2.2.2.2.2.1 bt1048.2.2.2.2.2.2.2.2.2.1 bt1048.2.2.2.2.2.2.2.2.2.2 t1008 t1009 t1010 bt1023.1 bt1023.2.1 bt1023.2.2.1) else (stipendlaw04_PeriodPays.j1 k1 x7_1 x8_1 x9_1 bt1023.2.2.2.1 bt1037.1 bt1037.2.1 bt1048.1 bt1048.2.1 false a1_0 a1_1 a1_2 bt1048.2.2.1 bt1048.2.2.2.1 bt1048.2.2.2.2.1 bt1048.2.2.2.2.2.1 bt1048.2.2.2.2.2.2.1 bt1048.2.2.2.2.2.2.2.1 bt1048.2.2.2.2.2.2.2.2.1 bt1048.2.2.2.2.2.2.2.2.2.1 bt1048.2.2.2.2.2.2.2.2.2.2 t1008 t1009 t1010 bt1023.1 bt1023.2.1 bt1023.2.2.1)) else (stipendlaw04_PeriodPays.j1 k1 x7_1 x8_1 x9_1 bt1023.2.2.2.1 bt1037.1 bt1037.2.1 bt1048.1 bt1048.2.1 false a1_0 a1_1 a1_2 bt1048.2.2.1 bt1048.2.2.2.1 bt1048.2.2.2.2.1 bt1048.2.2.2.2.2.1 bt1048.2.2.2.2.2.2.1 bt1048.2.2.2.2.2.2.2.1 bt1048.2.2.2.2.2.2.2.2.1 bt1048.2.2.2.2.2.2.2.2.2.1 bt1048.2.2.2.2.2.2.2.2.2.2 t1008 t1009 t1010 bt1023.1 bt1023.2.1 bt1023.2.2.1))))) = some r := H
      have A13 := a0_ A130
      clear A130
      replace H := oB_ H
      obtain ⟨⟨t1023, t1024, t1025, t1026, t1027, t1028, t1029, t1030, t1031, t1032, t1033, t1034, t1035⟩, A140, H⟩ := H
      replace H : ((period_Year_Quarter.f k1 t1027 t1028 t1029 t1030 t1031 t1032 t1033 t1034 t1035 x9_1).bind fun bt1037 => ((period_Year_Days.f k1 bt1037.2.2.1 bt1037.2.2.2.1 bt1037.2.2.2.2.1 bt1037.2.2.2.2.2.1 bt1037.2.2.2.2.2.2.1 bt1037.2.2.2.2.2.2.2.1 bt1037.2.2.2.2.2.2.2.2.1 bt1037.2.2.2.2.2.2.2.2.2.1 bt1037.2.2.2.2.2.2.2.2.2.2 x9_1).bind fun bt1048 => (if t1026 = 30 then (if x9_1 = 1 then (stipendlaw04_PeriodPays.j1 k1 x7_1 x8_1 x9_1 t1026 bt1037.1 bt1037.2.1 bt1048.1 bt1048.2.1 (t1008 == 1900) a1_0 a1_1 a1_2 bt1048.2.2.1 bt1048.2.2.2.1 bt1048.2.2.2.2.1 bt1048.2.2.2.2.2.1 bt1048.2.2.2.2.2.2.1 bt1048.2.2.2.2.2.2.2.1 bt1048.2.2.2.2.2.2.2.2.1 bt1048.2.2.2.2.2.2.2.2.2.1 bt1048.2.2.2.2.2.2.2.2.2.2 t1008 t1009 t1010 t1023 t1024 t1025) else (stipendlaw04_PeriodPays.j1 k1 x7_1 x8_1 x9_1 t1026 bt1037.1 bt1037.2.1 bt1048.1 bt1048.2.1 false a1_0 a1_1 a1_2 bt1048.2.2.1 bt1048.2.2.2.1 bt1048.2.2.2.2.1 bt1048.2.2.2.2.2.1 bt1048.2.2.2.2.2.2.1 bt1048.2.2.2.2.2.2.2.1 bt1048.2.2.2.2.2.2.2.2.1 bt1048.2.2.2.2.2.2.2.2.2.1 bt1048.2.2.2.2.2.2.2.2.2.2 t1008 t1009 t1010 t1023 t1024 t1025)) else (stipendlaw04_PeriodPays.j1 k1 x7_1 x8_1 x9_1 t1026 bt1037.1 bt1037.2.1 bt1048.1 bt1048.2.1 false a1_0 a1_1 a1_2 bt1048.2.2.1 bt1048.2.2.2.1 bt1048.2.2.2.2.1 bt1048.2.2.2.2.2.1 bt1048.2.2.2.2.2.2.1 bt1048.2.2.2.2.2.2.2.1 bt1048.2.2.2.2.2.2.2.2.1 bt1048.2.2.2.2.2.2.2.2.2.1 bt1048.2.2.2.2.2.2.2.2.2.2 t1008 t1009 t1010 t1023 t1024 t1025)))) = some r := H
      have A14 := a0_ A140
      clear A140
      replace H := oB_ H
      obtain ⟨⟨t1037, t1038, t1039, t1040, t1041, t1042, t1043, t1044, t1045, t1046, t1047⟩, A150, H⟩ := H
      replace H : ((period_Year_Days.f k1 t1039 t1040 t1041 t1042 t1043 t1044 t1045 t1046 t1047 x9_1).bind fun bt1048 => (if t1026 = 30 then (if x9_1 = 1 then (stipendlaw04_PeriodPays.j1 k1 x7_1 x8_1 x9_1 t1026 t1037 t1038 bt1048.1 bt1048.2.1 (t1008 == 1900) a1_0 a1_1 a1_2 bt1048.2.2.1 bt1048.2.2.2.1 bt1048.2.2.2.2.1 bt1048.2.2.2.2.2.1 bt1048.2.2.2.2.2.2.1 bt1048.2.2.2.2.2.2.2.1 bt1048.2.2.2.2.2.2.2.2.1 bt1048.2.2.2.2.2.2.2.2.2.1 bt1048.2.2.2.2.2.2.2.2.2.2 t1008 t1009 t1010 t1023 t1024 t1025) else (stipendlaw04_PeriodPays.j1 k1 x7_1 x8_1 x9_1 t1026 t1037 t1038 bt1048.1 bt1048.2.1 false a1_0 a1_1 a1_2 bt1048.2.2.1 bt1048.2.2.2.1 bt1048.2.2.2.2.1 bt1048.2.2.2.2.2.1 bt1048.2.2.2.2.2.2.1 bt1048.2.2.2.2.2.2.2.1 bt1048.2.2.2.2.2.2.2.2.1 bt1048.2.2.2.2.2.2.2.2.2.1 bt1048.2.2.2.2.2.2.2.2.2.2 t1008 t1009 t1010 t1023 t1024 t1025)) else (stipendlaw04_PeriodPays.j1 k1 x7_1 x8_1 x9_1 t1026 t1037 t1038 bt1048.1 bt1048.2.1 false a1_0 a1_1 a1_2 bt1048.2.2.1 bt1048.2.2.2.1 bt1048.2.2.2.2.1 bt1048.2.2.2.2.2.1 bt1048.2.2.2.2.2.2.1 bt1048.2.2.2.2.2.2.2.1 bt1048.2.2.2.2.2.2.2.2.1 bt1048.2.2.2.2.2.2.2.2.2.1 bt1048.2.2.2.2.2.2.2.2.2.2 t1008 t1009 t1010 t1023 t1024 t1025))) = some r := H
      have A15 := a0_ A150
      clear A150
      replace H := oB_ H
      obtain ⟨⟨t1048, t1049, t1050, t1051, t1052, t1053, t1054, t1055, t1056, t1057, t1058⟩, A160, H⟩ := H
      replace H : (if t1026 = 30 then (if x9_1 = 1 then (stipendlaw04_PeriodPays.j1 k1 x7_1 x8_1 x9_1 t1026 t1037 t1038 t1048 t1049 (t1008 == 1900) a1_0 a1_1 a1_2 t1050 t1051 t1052 t1053 t1054 t1055 t1056 t1057 t1058 t1008 t1009 t1010 t1023 t1024 t1025) else (stipendlaw04_PeriodPays.j1 k1 x7_1 x8_1 x9_1 t1026 t1037 t1038 t1048 t1049 false a1_0 a1_1 a1_2 t1050 t1051 t1052 t1053 t1054 t1055 t1056 t1057 t1058 t1008 t1009 t1010 t1023 t1024 t1025)) else (stipendlaw04_PeriodPays.j1 k1 x7_1 x8_1 x9_1 t1026 t1037 t1038 t1048 t1049 false a1_0 a1_1 a1_2 t1050 t1051 t1052 t1053 t1054 t1055 t1056 t1057 t1058 t1008 t1009 t1010 t1023 t1024 t1025)) = some r := H
      have A16 := a0_ A160
      clear A160
      have HC17 := a0_ H
      clear H
      go_upto_region 14 with (first | ((with_reducible refine gate_callee (f := 24) rfl ?_); refine goesL_ (some 45) rfl rfl Try.func24 (by kernel_rfl) rfl #[.pointer (some ⟨g993, 0, none⟩)] rfl (by (try simp only [List.map_toArray, List.map_cons, List.map_nil]); first | done | rfl) ?_; (with_reducible refine (period_Year_Count.calls g993 x994000_1 x994001_1 x994002_1 x994003_1 x994004_1 x994005_1 x994006_1 x994007_1 x994008_1 t995 t996 t997 t998 t999 t1000 t1001 t1002 t1003 t1004 w _ ?side1 ?side2 A11.out).mono ?_); (case side1 => repeat (first | (with_reducible first | exact HI993.out | apply sA_ | apply sN_ | apply sD_ | refine sF_ ?_ NB993_982.out _) | exact HI993.out)); (case side2 => repeat (first | (with_reducible first | exact HB.out | apply lA_ | apply lN_ | apply lD_ | refine lS_ ?_ (sG_ HI993.out) | refine lS_ ?_ GE982.out) | exact HB.out)); rintro e w18 ⟨rfl, hi, hb, hk⟩; refine ⟨_, rfl, ?_⟩; have n0_ := a0_ (KeepBut.blk hk (g' := gb982) (o := .cells #[.int .i64 a1_0, .int .i64 a1_1, .int .i64 a1_2] 23 (0, 0)) (by (with_reducible repeat first | apply bN_ | apply bD_ | apply bA_); exact BK982.out) NB982_993.out (by simp)); have n1_ := a0_ (hb); have n2_ := a0_ (hi); clear BK982; clear HB; clear HI993; have BK982 := n0_; have HB := n1_; have HI993 := n2_; clear n0_ n1_ n2_; (try clear hb); (try clear hb2); (try clear hk); (try clear hi)) | ((with_reducible refine gate_callee (f := 15) rfl ?_); refine goesL_ (some 52) rfl rfl Try.func15 (by kernel_rfl) rfl #[.pointer (some ⟨g993, 0, none⟩), .int .i64 x9_1] rfl (by (try simp only [List.map_toArray, List.map_cons, List.map_nil]); first | done | rfl) ?_; (with_reducible refine (period_Year_Span.calls k1 g993 t996 t997 t998 t999 t1000 t1001 t1002 t1003 t1004 x9_1 t1005 t1006 t1007 t1008 t1009 t1010 t1011 t1012 t1013 t1014 t1015 t1016 t1017 t1018 t1019 t1020 w _ ?side1 ?side2 A13.out).mono ?_); (case side1 => repeat (first | (with_reducible first | exact HI993.out | apply sA_ | apply sN_ | apply sD_ | refine sF_ ?_ NB993_982.out _) | exact HI993.out)); (case side2 => repeat (first | (with_reducible first | exact HB.out | apply lA_ | apply lN_ | apply lD_ | refine lS_ ?_ (sG_ HI993.out) | refine lS_ ?_ GE982.out) | exact HB.out)); rintro e w19 ⟨rfl, hi, hb, hk⟩; refine ⟨_, rfl, ?_⟩; have n0_ := a0_ (KeepBut.blk hk (g' := gb982) (o := .cells #[.int .i64 a1_0, .int .i64 a1_1, .int .i64 a1_2] 23 (0, 0)) (by (with_reducible repeat first | apply bN_ | apply bD_ | apply bA_); exact BK982.out) NB982_993.out (by simp)); have n1_ := a0_ (hb); have n2_ := a0_ (hi); clear BK982; clear HB; clear HI993; have BK982 := n0_; have HB := n1_; have HI993 := n2_; clear n0_ n1_ n2_; (try clear hb); (try clear hb2); (try clear hk); (try clear hi)) | ((with_reducible refine gate_dst (N := 10) rfl ?_); refine box_event ?hg (N := 10) ?hd (cs := #[.int .i64 0, .int .i64 0, .int .i64 0]) (t := 23) ?hr ?_; (case hd => rfl); (case hg => rfl); (case hr => first | (go_simp; done) | (go_simp; rfl)); intro gb1021 hg w20 hbox hb; have n0_ := a0_ (bB_ (g := gb982) (o := .cells #[.int .i64 a1_0, .int .i64 a1_1, .int .i64 a1_2] 23 (0, 0)) (by (with_reducible repeat first | apply bN_ | apply bD_ | apply bA_); exact BK982.out) hb); have n1_ := a0_ (IsS62.below (by repeat (first | (with_reducible first | exact HI993.out | apply sA_ | apply sN_ | apply sD_ | refine sF_ ?_ NB993_982.out _) | exact HI993.out)) hb); have n2_ := a0_ (below_step (by repeat (first | (with_reducible first | exact HB.out | apply lA_ | apply lN_ | apply lD_ | refine lS_ ?_ (sG_ HI993.out) | refine lS_ ?_ GE982.out) | exact HB.out)) hb); have n3_ := a0_ (hbox); have n4_ := a0_ ((by rw [hg]; exact (below_size (by repeat (first | (with_reducible first | exact HB.out | apply lA_ | apply lN_ | apply lD_ | refine lS_ ?_ (sG_ HI993.out) | refine lS_ ?_ GE982.out) | exact HB.out))) : w.heap.size ≤ gb1021)); have n5_ := a0_ ((by rw [hg]; exact (below_size (by repeat (first | (with_reducible first | exact HB.out | apply lA_ | apply lN_ | apply lD_ | refine lS_ ?_ (sG_ HI993.out) | refine lS_ ?_ GE982.out) | exact HB.out))) : w.heap.size ≤ gb1021)); have n6_ := a0_ ((by rw [hg]; exact Nat.ne_of_lt (blk_lt (g := gb982) (o := .cells #[.int .i64 a1_0, .int .i64 a1_1, .int .i64 a1_2] 23 (0, 0)) (by (with_reducible repeat first | apply bN_ | apply bD_ | apply bA_); exact BK982.out)) : gb982 ≠ gb1021)); have n7_ := a0_ ((by rw [hg]; exact Nat.ne_of_gt (blk_lt (g := gb982) (o := .cells #[.int .i64 a1_0, .int .i64 a1_1, .int .i64 a1_2] 23 (0, 0)) (by (with_reducible repeat first | apply bN_ | apply bD_ | apply bA_); exact BK982.out)) : gb1021 ≠ gb982)); have n8_ := a0_ ((by rw [hg]; exact Nat.ne_of_lt (IsS62.lt (show IsS62 w _ g993 t1012 t1013 t1014 t1015 t1016 t1017 t1018 t1019 t1020 from by repeat (first | (with_reducible first | exact HI993.out | apply sA_ | apply sN_ | apply sD_ | refine sF_ ?_ NB993_982.out _) | exact HI993.out))) : g993 ≠ gb1021)); have n9_ := a0_ ((by rw [hg]; exact Nat.ne_of_gt (IsS62.lt (show IsS62 w _ g993 t1012 t1013 t1014 t1015 t1016 t1017 t1018 t1019 t1020 from by repeat (first | (with_reducible first | exact HI993.out | apply sA_ | apply sN_ | apply sD_ | refine sF_ ?_ NB993_982.out _) | exact HI993.out))) : gb1021 ≠ g993)); clear BK982; clear HI993; clear HB; have BK982 := n0_; have HI993 := n1_; have HB := n2_; have BK1021 := n3_; have GW1021 := n4_; have GE1021 := n5_; have NB982_1021 := n6_; have NB1021_982 := n7_; have NB993_1021 := n8_; have NB1021_993 := n9_; clear n0_ n1_ n2_ n3_ n4_ n5_ n6_ n7_ n8_ n9_; clear hb hbox hg) | ((with_reducible refine gate_dst (N := 11) rfl ?_); refine box_event ?hg (N := 11) ?hd (cs := #[.int .i64 0, .int .i64 0, .int .i64 0]) (t := 23) ?hr ?_; (case hd => rfl); (case hg => rfl); (case hr => first | (go_simp; done) | (go_simp; rfl)); intro gb1022 hg w21 hbox hb; have n0_ := a0_ (bB_ (g := gb982) (o := .cells #[.int .i64 a1_0, .int .i64 a1_1, .int .i64 a1_2] 23 (0, 0)) (by (with_reducible repeat first | apply bN_ | apply bD_ | apply bA_); exact BK982.out) hb); have n1_ := a0_ (IsS62.below (by repeat (first | (with_reducible first | exact HI993.out | apply sA_ | apply sN_ | apply sD_ | refine sF_ ?_ NB993_982.out _ | refine sF_ ?_ NB993_1021.out _) | exact HI993.out)) hb); have n2_ := a0_ (bB_ (g := gb1021) (o := .cells #[.int .i64 0, .int .i64 0, .int .i64 0] 23 (0, 0)) (by (with_reducible repeat first | apply bN_ | apply bD_ | apply bA_); exact BK1021.out) hb); have n3_ := a0_ (below_step (by repeat (first | (with_reducible first | exact HB.out | apply lA_ | apply lN_ | apply lD_ | refine lS_ ?_ (sG_ HI993.out) | refine lS_ ?_ GE982.out | refine lS_ ?_ GE1021.out) | exact HB.out)) hb); have n4_ := a0_ (hbox); have n5_ := a0_ ((by rw [hg]; exact (below_size (by repeat (first | (with_reducible first | exact HB.out | apply lA_ | apply lN_ | apply lD_ | refine lS_ ?_ (sG_ HI993.out) | refine lS_ ?_ GE982.out | refine lS_ ?_ GE1021.out) | exact HB.out))) : w.heap.size ≤ gb1022)); have n6_ := a0_ ((by rw [hg]; exact (below_size (by repeat (first | (with_reducible first | exact HB.out | apply lA_ | apply lN_ | apply lD_ | refine lS_ ?_ (sG_ HI993.out) | refine lS_ ?_ GE982.out | refine lS_ ?_ GE1021.out) | exact HB.out))) : w.heap.size ≤ gb1022)); have n7_ := a0_ ((by rw [hg]; exact Nat.ne_of_lt (blk_lt (g := gb982) (o := .cells #[.int .i64 a1_0, .int .i64 a1_1, .int .i64 a1_2] 23 (0, 0)) (by (with_reducible repeat first | apply bN_ | apply bD_ | apply bA_); exact BK982.out)) : gb982 ≠ gb1022)); have n8_ := a0_ ((by rw [hg]; exact Nat.ne_of_gt (blk_lt (g := gb982) (o := .cells #[.int .i64 a1_0, .int .i64 a1_1, .int .i64 a1_2] 23 (0, 0)) (by (with_reducible repeat first | apply bN_ | apply bD_ | apply bA_); exact BK982.out)) : gb1022 ≠ gb982)); have n9_ := a0_ ((by rw [hg]; exact Nat.ne_of_lt (blk_lt (g := gb1021) (o := .cells #[.int .i64 0, .int .i64 0, .int .i64 0] 23 (0, 0)) (by (with_reducible repeat first | apply bN_ | apply bD_ | apply bA_); exact BK1021.out)) : gb1021 ≠ gb1022)); have n10_ := a0_ ((by rw [hg]; exact Nat.ne_of_gt (blk_lt (g := gb1021) (o := .cells #[.int .i64 0, .int .i64 0, .int .i64 0] 23 (0, 0)) (by (with_reducible repeat first | apply bN_ | apply bD_ | apply bA_); exact BK1021.out)) : gb1022 ≠ gb1021)); have n11_ := a0_ ((by rw [hg]; exact Nat.ne_of_lt (IsS62.lt (show IsS62 w _ g993 t1012 t1013 t1014 t1015 t1016 t1017 t1018 t1019 t1020 from by repeat (first | (with_reducible first | exact HI993.out | apply sA_ | apply sN_ | apply sD_ | refine sF_ ?_ NB993_982.out _ | refine sF_ ?_ NB993_1021.out _) | exact HI993.out))) : g993 ≠ gb1022)); have n12_ := a0_ ((by rw [hg]; exact Nat.ne_of_gt (IsS62.lt (show IsS62 w _ g993 t1012 t1013 t1014 t1015 t1016 t1017 t1018 t1019 t1020 from by repeat (first | (with_reducible first | exact HI993.out | apply sA_ | apply sN_ | apply sD_ | refine sF_ ?_ NB993_982.out _ | refine sF_ ?_ NB993_1021.out _) | exact HI993.out))) : gb1022 ≠ g993)); clear BK982; clear HI993; clear BK1021; clear HB; have BK982 := n0_; have HI993 := n1_; have BK1021 := n2_; have HB := n3_; have BK1022 := n4_; have GW1022 := n5_; have GE1022 := n6_; have NB982_1022 := n7_; have NB1022_982 := n8_; have NB1021_1022 := n9_; have NB1022_1021 := n10_; have NB993_1022 := n11_; have NB1022_993 := n12_; clear n0_ n1_ n2_ n3_ n4_ n5_ n6_ n7_ n8_ n9_ n10_ n11_ n12_; clear hb hbox hg; have hnb22 := NB1021_982.out; have hnc22 := NB982_1021.out; have hnb23 := NB1021_1022.out; have hnc23 := NB1022_1021.out; have hnb24 := NB1021_993.out; have hnc24 := NB993_1021.out; have hcz25_0 : w21.cell? ⟨gb1021, 0, none⟩ = some (.int .i64 0) := (bC_ BK1021.out 0).trans rfl; have hcz25_1 : w21.cell? ⟨gb1021, 1, none⟩ = some (.int .i64 0) := (bC_ BK1021.out 1).trans rfl; have hcz25_2 : w21.cell? ⟨gb1021, 2, none⟩ = some (.int .i64 0) := (bC_ BK1021.out 2).trans rfl; have hfz25_0 := bF_ BK1021.out 0; have hfz25_1 := bF_ BK1021.out 1; have hfz25_2 := bF_ BK1021.out 2; have hnb26 := NB1022_982.out; have hnc26 := NB982_1022.out; have hnb27 := NB1022_993.out; have hnc27 := NB993_1022.out; have hcz28_0 : w21.cell? ⟨gb1022, 0, none⟩ = some (.int .i64 0) := (bC_ BK1022.out 0).trans rfl; have hcz28_1 : w21.cell? ⟨gb1022, 1, none⟩ = some (.int .i64 0) := (bC_ BK1022.out 1).trans rfl; have hcz28_2 : w21.cell? ⟨gb1022, 2, none⟩ = some (.int .i64 0) := (bC_ BK1022.out 2).trans rfl; have hfz28_0 := bF_ BK1022.out 0; have hfz28_1 := bF_ BK1022.out 1; have hfz28_2 := bF_ BK1022.out 2) | ((with_reducible refine gate_callee (f := 31) rfl ?_); refine goesL_ (some 59) rfl rfl Try.func31 (by kernel_rfl) rfl #[.pointer (some ⟨g993, 0, none⟩), .int .i64 x9_1] rfl (by (try simp only [List.map_toArray, List.map_cons, List.map_nil]); first | done | rfl) ?_; (with_reducible refine (period_Year_PayDay.calls k1 g993 t1012 t1013 t1014 t1015 t1016 t1017 t1018 t1019 t1020 x9_1 t1023 t1024 t1025 t1026 t1027 t1028 t1029 t1030 t1031 t1032 t1033 t1034 t1035 w _ ?side1 ?side2 A14.out).mono ?_); (case side1 => repeat (first | (with_reducible first | exact HI993.out | apply sA_ | apply sN_ | apply sD_ | refine sF_ ?_ NB993_982.out _ | refine sF_ ?_ NB993_1021.out _ | refine sF_ ?_ NB993_1022.out _) | exact HI993.out)); (case side2 => repeat (first | (with_reducible first | exact HB.out | apply lA_ | apply lN_ | apply lD_ | refine lS_ ?_ (sG_ HI993.out) | refine lS_ ?_ GE982.out | refine lS_ ?_ GE1021.out | refine lS_ ?_ GE1022.out) | exact HB.out)); rintro e w29 ⟨rfl, hi, hb, hk⟩; refine ⟨_, rfl, ?_⟩; have n0_ := a0_ (KeepBut.blk hk (g' := gb982) (o := .cells #[.int .i64 a1_0, .int .i64 a1_1, .int .i64 a1_2] 23 (0, 0)) (by (with_reducible repeat first | apply bN_ | apply bD_ | apply bA_); refine blk_far ?_ NB982_1022.out _; (with_reducible repeat first | apply bN_ | apply bD_ | apply bA_); refine blk_far ?_ NB982_1022.out _; (with_reducible repeat first | apply bN_ | apply bD_ | apply bA_); refine blk_far ?_ NB982_1022.out _; (with_reducible repeat first | apply bN_ | apply bD_ | apply bA_); refine blk_far ?_ NB982_1021.out _; (with_reducible repeat first | apply bN_ | apply bD_ | apply bA_); refine blk_far ?_ NB982_1021.out _; (with_reducible repeat first | apply bN_ | apply bD_ | apply bA_); refine blk_far ?_ NB982_1021.out _; (with_reducible repeat first | apply bN_ | apply bD_ | apply bA_); exact BK982.out) NB982_993.out (by simp)); have n1_ := a0_ (KeepBut.blk hk (g' := gb1021) (o := .cells #[.int .i64 t1005, .int .i64 t1006, .int .i64 t1007] 23 (0, 0)) (by (with_reducible repeat first | apply bN_ | apply bD_ | apply bA_); refine blk_far ?_ NB1021_1022.out _; (with_reducible repeat first | apply bN_ | apply bD_ | apply bA_); refine blk_far ?_ NB1021_1022.out _; (with_reducible repeat first | apply bN_ | apply bD_ | apply bA_); refine blk_far ?_ NB1021_1022.out _; (with_reducible repeat first | apply bN_ | apply bD_ | apply bA_); refine blk_put (cs := #[.int .i64 t1005, .int .i64 t1006, .int .i64 0]) ?_ 2 _ rfl; (with_reducible repeat first | apply bN_ | apply bD_ | apply bA_); refine blk_put (cs := #[.int .i64 t1005, .int .i64 0, .int .i64 0]) ?_ 1 _ rfl; (with_reducible repeat first | apply bN_ | apply bD_ | apply bA_); refine blk_put (cs := #[.int .i64 0, .int .i64 0, .int .i64 0]) ?_ 0 _ rfl; (with_reducible repeat first | apply bN_ | apply bD_ | apply bA_); exact BK1021.out) NB1021_993.out (by simp)); have n2_ := a0_ (KeepBut.blk hk (g' := gb1022) (o := .cells #[.int .i64 t1008, .int .i64 t1009, .int .i64 t1010] 23 (0, 0)) (by (with_reducible repeat first | apply bN_ | apply bD_ | apply bA_); refine blk_put (cs := #[.int .i64 t1008, .int .i64 t1009, .int .i64 0]) ?_ 2 _ rfl; (with_reducible repeat first | apply bN_ | apply bD_ | apply bA_); refine blk_put (cs := #[.int .i64 t1008, .int .i64 0, .int .i64 0]) ?_ 1 _ rfl; (with_reducible repeat first | apply bN_ | apply bD_ | apply bA_); refine blk_put (cs := #[.int .i64 0, .int .i64 0, .int .i64 0]) ?_ 0 _ rfl; (with_reducible repeat first | apply bN_ | apply bD_ | apply bA_); refine blk_far ?_ NB1022_1021.out _; (with_reducible repeat first | apply bN_ | apply bD_ | apply bA_); refine blk_far ?_ NB1022_1021.out _; (with_reducible repeat first | apply bN_ | apply bD_ | apply bA_); refine blk_far ?_ NB1022_1021.out _; (with_reducible repeat first | apply bN_ | apply bD_ | apply bA_); exact BK1022.out) NB1022_993.out (by simp)); have n3_ := a0_ (hb); have n4_ := a0_ (hi); clear BK982; clear BK1021; clear BK1022; clear HB; clear HI993; have BK982 := n0_; have BK1021 := n1_; have BK1022 := n2_; have HB := n3_; have HI993 := n4_; clear n0_ n1_ n2_ n3_ n4_; (try clear hb); (try clear hb2); (try clear hk); (try clear hi)) | ((with_reducible refine gate_dst (N := 13) rfl ?_); refine box_event ?hg (N := 13) ?hd (cs := #[.int .i64 0, .int .i64 0, .int .i64 0]) (t := 23) ?hr ?_; (case hd => rfl); (case hg => rfl); (case hr => first | (go_simp; done) | (go_simp; rfl)); intro gb1036 hg w30 hbox hb; have n0_ := a0_ (bB_ (g := gb982) (o := .cells #[.int .i64 a1_0, .int .i64 a1_1, .int .i64 a1_2] 23 (0, 0)) (by (with_reducible repeat first | apply bN_ | apply bD_ | apply bA_); exact BK982.out) hb); have n1_ := a0_ (IsS62.below (by repeat (first | (with_reducible first | exact HI993.out | apply sA_ | apply sN_ | apply sD_ | refine sF_ ?_ NB993_982.out _ | refine sF_ ?_ NB993_1021.out _ | refine sF_ ?_ NB993_1022.out _) | exact HI993.out)) hb); have n2_ := a0_ (bB_ (g := gb1021) (o := .cells #[.int .i64 t1005, .int .i64 t1006, .int .i64 t1007] 23 (0, 0)) (by (with_reducible repeat first | apply bN_ | apply bD_ | apply bA_); exact BK1021.out) hb); have n3_ := a0_ (bB_ (g := gb1022) (o := .cells #[.int .i64 t1008, .int .i64 t1009, .int .i64 t1010] 23 (0, 0)) (by (with_reducible repeat first | apply bN_ | apply bD_ | apply bA_); exact BK1022.out) hb); have n4_ := a0_ (below_step (by repeat (first | (with_reducible first | exact HB.out | apply lA_ | apply lN_ | apply lD_ | refine lS_ ?_ (sG_ HI993.out) | refine lS_ ?_ GE982.out | refine lS_ ?_ GE1021.out | refine lS_ ?_ GE1022.out) | exact HB.out)) hb); have n5_ := a0_ (hbox); have n6_ := a0_ ((by rw [hg]; exact (below_size (by repeat (first | (with_reducible first | exact HB.out | apply lA_ | apply lN_ | apply lD_ | refine lS_ ?_ (sG_ HI993.out) | refine lS_ ?_ GE982.out | refine lS_ ?_ GE1021.out | refine lS_ ?_ GE1022.out) | exact HB.out))) : w.heap.size ≤ gb1036)); have n7_ := a0_ ((by rw [hg]; exact (below_size (by repeat (first | (with_reducible first | exact HB.out | apply lA_ | apply lN_ | apply lD_ | refine lS_ ?_ (sG_ HI993.out) | refine lS_ ?_ GE982.out | refine lS_ ?_ GE1021.out | refine lS_ ?_ GE1022.out) | exact HB.out))) : w.heap.size ≤ gb1036)); have n8_ := a0_ ((by rw [hg]; exact Nat.ne_of_lt (blk_lt (g := gb982) (o := .cells #[.int .i64 a1_0, .int .i64 a1_1, .int .i64 a1_2] 23 (0, 0)) (by (with_reducible repeat first | apply bN_ | apply bD_ | apply bA_); exact BK982.out)) : gb982 ≠ gb1036)); have n9_ := a0_ ((by rw [hg]; exact Nat.ne_of_gt (blk_lt (g := gb982) (o := .cells #[.int .i64 a1_0, .int .i64 a1_1, .int .i64 a1_2] 23 (0, 0)) (by (with_reducible repeat first | apply bN_ | apply bD_ | apply bA_); exact BK982.out)) : gb1036 ≠ gb982)); have n10_ := a0_ ((by rw [hg]; exact Nat.ne_of_lt (blk_lt (g := gb1021) (o := .cells #[.int .i64 t1005, .int .i64 t1006, .int .i64 t1007] 23 (0, 0)) (by (with_reducible repeat first | apply bN_ | apply bD_ | apply bA_); exact BK1021.out)) : gb1021 ≠ gb1036)); have n11_ := a0_ ((by rw [hg]; exact Nat.ne_of_gt (blk_lt (g := gb1021) (o := .cells #[.int .i64 t1005, .int .i64 t1006, .int .i64 t1007] 23 (0, 0)) (by (with_reducible repeat first | apply bN_ | apply bD_ | apply bA_); exact BK1021.out)) : gb1036 ≠ gb1021)); have n12_ := a0_ ((by rw [hg]; exact Nat.ne_of_lt (blk_lt (g := gb1022) (o := .cells #[.int .i64 t1008, .int .i64 t1009, .int .i64 t1010] 23 (0, 0)) (by (with_reducible repeat first | apply bN_ | apply bD_ | apply bA_); exact BK1022.out)) : gb1022 ≠ gb1036)); have n13_ := a0_ ((by rw [hg]; exact Nat.ne_of_gt (blk_lt (g := gb1022) (o := .cells #[.int .i64 t1008, .int .i64 t1009, .int .i64 t1010] 23 (0, 0)) (by (with_reducible repeat first | apply bN_ | apply bD_ | apply bA_); exact BK1022.out)) : gb1036 ≠ gb1022)); have n14_ := a0_ ((by rw [hg]; exact Nat.ne_of_lt (IsS62.lt (show IsS62 w _ g993 t1027 t1028 t1029 t1030 t1031 t1032 t1033 t1034 t1035 from by repeat (first | (with_reducible first | exact HI993.out | apply sA_ | apply sN_ | apply sD_ | refine sF_ ?_ NB993_982.out _ | refine sF_ ?_ NB993_1021.out _ | refine sF_ ?_ NB993_1022.out _) | exact HI993.out))) : g993 ≠ gb1036)); have n15_ := a0_ ((by rw [hg]; exact Nat.ne_of_gt (IsS62.lt (show IsS62 w _ g993 t1027 t1028 t1029 t1030 t1031 t1032 t1033 t1034 t1035 from by repeat (first | (with_reducible first | exact HI993.out | apply sA_ | apply sN_ | apply sD_ | refine sF_ ?_ NB993_982.out _ | refine sF_ ?_ NB993_1021.out _ | refine sF_ ?_ NB993_1022.out _) | exact HI993.out))) : gb1036 ≠ g993)); clear BK982; clear HI993; clear BK1021; clear BK1022; clear HB; have BK982 := n0_; have HI993 := n1_; have BK1021 := n2_; have BK1022 := n3_; have HB := n4_; have BK1036 := n5_; have GW1036 := n6_; have GE1036 := n7_; have NB982_1036 := n8_; have NB1036_982 := n9_; have NB1021_1036 := n10_; have NB1036_1021 := n11_; have NB1022_1036 := n12_; have NB1036_1022 := n13_; have NB993_1036 := n14_; have NB1036_993 := n15_; clear n0_ n1_ n2_ n3_ n4_ n5_ n6_ n7_ n8_ n9_ n10_ n11_ n12_ n13_ n14_ n15_; clear hb hbox hg; have hnb31 := NB1036_982.out; have hnc31 := NB982_1036.out; have hnb32 := NB1036_1021.out; have hnc32 := NB1021_1036.out; have hnb33 := NB1036_1022.out; have hnc33 := NB1022_1036.out; have hnb34 := NB1036_993.out; have hnc34 := NB993_1036.out; have hcz35_0 : w30.cell? ⟨gb1036, 0, none⟩ = some (.int .i64 0) := (bC_ BK1036.out 0).trans rfl; have hcz35_1 : w30.cell? ⟨gb1036, 1, none⟩ = some (.int .i64 0) := (bC_ BK1036.out 1).trans rfl; have hcz35_2 : w30.cell? ⟨gb1036, 2, none⟩ = some (.int .i64 0) := (bC_ BK1036.out 2).trans rfl; have hfz35_0 := bF_ BK1036.out 0; have hfz35_1 := bF_ BK1036.out 1; have hfz35_2 := bF_ BK1036.out 2) | ((with_reducible refine gate_callee (f := 32) rfl ?_); refine goesL_ (some 65) rfl rfl Try.func32 (by kernel_rfl) rfl #[.pointer (some ⟨g993, 0, none⟩), .int .i64 x9_1] rfl (by (try simp only [List.map_toArray, List.map_cons, List.map_nil]); first | done | rfl) ?_; (with_reducible refine (period_Year_Quarter.calls k1 g993 t1027 t1028 t1029 t1030 t1031 t1032 t1033 t1034 t1035 x9_1 t1037 t1038 t1039 t1040 t1041 t1042 t1043 t1044 t1045 t1046 t1047 w _ ?side1 ?side2 A15.out).mono ?_); (case side1 => repeat (first | (with_reducible first | exact HI993.out | apply sA_ | apply sN_ | apply sD_ | refine sF_ ?_ NB993_982.out _ | refine sF_ ?_ NB993_1021.out _ | refine sF_ ?_ NB993_1022.out _ | refine sF_ ?_ NB993_1036.out _) | exact HI993.out)); (case side2 => repeat (first | (with_reducible first | exact HB.out | apply lA_ | apply lN_ | apply lD_ | refine lS_ ?_ (sG_ HI993.out) | refine lS_ ?_ GE982.out | refine lS_ ?_ GE1021.out | refine lS_ ?_ GE1022.out | refine lS_ ?_ GE1036.out) | exact HB.out)); rintro e w36 ⟨rfl, hi, hb, hk⟩; refine ⟨_, rfl, ?_⟩; have n0_ := a0_ (KeepBut.blk hk (g' := gb982) (o := .cells #[.int .i64 a1_0, .int .i64 a1_1, .int .i64 a1_2] 23 (0, 0)) (by (with_reducible repeat first | apply bN_ | apply bD_ | apply bA_); refine blk_far ?_ NB982_1036.out _; (with_reducible repeat first | apply bN_ | apply bD_ | apply bA_); refine blk_far ?_ NB982_1036.out _; (with_reducible repeat first | apply bN_ | apply bD_ | apply bA_); refine blk_far ?_ NB982_1036.out _; (with_reducible repeat first | apply bN_ | apply bD_ | apply bA_); exact BK982.out) NB982_993.out (by simp)); have n1_ := a0_ (KeepBut.blk hk (g' := gb1021) (o := .cells #[.int .i64 t1005, .int .i64 t1006, .int .i64 t1007] 23 (0, 0)) (by (with_reducible repeat first | apply bN_ | apply bD_ | apply bA_); refine blk_far ?_ NB1021_1036.out _; (with_reducible repeat first | apply bN_ | apply bD_ | apply bA_); refine blk_far ?_ NB1021_1036.out _; (with_reducible repeat first | apply bN_ | apply bD_ | apply bA_); refine blk_far ?_ NB1021_1036.out _; (with_reducible repeat first | apply bN_ | apply bD_ | apply bA_); exact BK1021.out) NB1021_993.out (by simp)); have n2_ := a0_ (KeepBut.blk hk (g' := gb1022) (o := .cells #[.int .i64 t1008, .int .i64 t1009, .int .i64 t1010] 23 (0, 0)) (by (with_reducible repeat first | apply bN_ | apply bD_ | apply bA_); refine blk_far ?_ NB1022_1036.out _; (with_reducible repeat first | apply bN_ | apply bD_ | apply bA_); refine blk_far ?_ NB1022_1036.out _; (with_reducible repeat first | apply bN_ | apply bD_ | apply bA_); refine blk_far ?_ NB1022_1036.out _; (with_reducible repeat first | apply bN_ | apply bD_ | apply bA_); exact BK1022.out) NB1022_993.out (by simp)); have n3_ := a0_ (KeepBut.blk hk (g' := gb1036) (o := .cells #[.int .i64 t1023, .int .i64 t1024, .int .i64 t1025] 23 (0, 0)) (by (with_reducible repeat first | apply bN_ | apply bD_ | apply bA_); refine blk_put (cs := #[.int .i64 t1023, .int .i64 t1024, .int .i64 0]) ?_ 2 _ rfl; (with_reducible repeat first | apply bN_ | apply bD_ | apply bA_); refine blk_put (cs := #[.int .i64 t1023, .int .i64 0, .int .i64 0]) ?_ 1 _ rfl; (with_reducible repeat first | apply bN_ | apply bD_ | apply bA_); refine blk_put (cs := #[.int .i64 0, .int .i64 0, .int .i64 0]) ?_ 0 _ rfl; (with_reducible repeat first | apply bN_ | apply bD_ | apply bA_); exact BK1036.out) NB1036_993.out (by simp)); have n4_ := a0_ (hb); have n5_ := a0_ (hi); clear BK982; clear BK1021; clear BK1022; clear BK1036; clear HB; clear HI993; have BK982 := n0_; have BK1021 := n1_; have BK1022 := n2_; have BK1036 := n3_; have HB := n4_; have HI993 := n5_; clear n0_ n1_ n2_ n3_ n4_ n5_; (try clear hb); (try clear hb2); (try clear hk); (try clear hi)) | ((with_reducible refine gate_callee (f := 33) rfl ?_); refine goesL_ (some 71) rfl rfl Try.func33 (by kernel_rfl) rfl #[.pointer (some ⟨g993, 0, none⟩), .int .i64 x9_1] rfl (by (try simp only [List.map_toArray, List.map_cons, List.map_nil]); first | done | rfl) ?_; (with_reducible refine (period_Year_Days.calls k1 g993 t1039 t1040 t1041 t1042 t1043 t1044 t1045 t1046 t1047 x9_1 t1048 t1049 t1050 t1051 t1052 t1053 t1054 t1055 t1056 t1057 t1058 w _ ?side1 ?side2 A16.out).mono ?_); (case side1 => repeat (first | (with_reducible first | exact HI993.out | apply sA_ | apply sN_ | apply sD_ | refine sF_ ?_ NB993_982.out _ | refine sF_ ?_ NB993_1021.out _ | refine sF_ ?_ NB993_1022.out _ | refine sF_ ?_ NB993_1036.out _) | exact HI993.out)); (case side2 => repeat (first | (with_reducible first | exact HB.out | apply lA_ | apply lN_ | apply lD_ | refine lS_ ?_ (sG_ HI993.out) | refine lS_ ?_ GE982.out | refine lS_ ?_ GE1021.out | refine lS_ ?_ GE1022.out | refine lS_ ?_ GE1036.out) | exact HB.out)); rintro e w37 ⟨rfl, hi, hb, hk⟩; refine ⟨_, rfl, ?_⟩; have n0_ := a0_ (KeepBut.blk hk (g' := gb982) (o := .cells #[.int .i64 a1_0, .int .i64 a1_1, .int .i64 a1_2] 23 (0, 0)) (by (with_reducible repeat first | apply bN_ | apply bD_ | apply bA_); exact BK982.out) NB982_993.out (by simp)); have n1_ := a0_ (KeepBut.blk hk (g' := gb1021) (o := .cells #[.int .i64 t1005, .int .i64 t1006, .int .i64 t1007] 23 (0, 0)) (by (with_reducible repeat first | apply bN_ | apply bD_ | apply bA_); exact BK1021.out) NB1021_993.out (by simp)); have n2_ := a0_ (KeepBut.blk hk (g' := gb1022) (o := .cells #[.int .i64 t1008, .int .i64 t1009, .int .i64 t1010] 23 (0, 0)) (by (with_reducible repeat first | apply bN_ | apply bD_ | apply bA_); exact BK1022.out) NB1022_993.out (by simp)); have n3_ := a0_ (KeepBut.blk hk (g' := gb1036) (o := .cells #[.int .i64 t1023, .int .i64 t1024, .int .i64 t1025] 23 (0, 0)) (by (with_reducible repeat first | apply bN_ | apply bD_ | apply bA_); exact BK1036.out) NB1036_993.out (by simp)); have n4_ := a0_ (hb); have n5_ := a0_ (hi); clear BK982; clear BK1021; clear BK1022; clear BK1036; clear HB; clear HI993; have BK982 := n0_; have BK1021 := n1_; have BK1022 := n2_; have BK1036 := n3_; have HB := n4_; have HI993 := n5_; clear n0_ n1_ n2_ n3_ n4_ n5_; (try clear hb); (try clear hb2); (try clear hk); (try clear hi)))
      (try simp only [Act.put, zA_, zB_, zC_])
      go_cut [84] (fun v84 wc => ∃ (kq : Nat) (x84_16 : Bool), v84 = .bool x84_16 ∧ Aside0 (stipendlaw04_PeriodPays.j1 kq x7_1 x8_1 x9_1 t1026 t1037 t1038 t1048 t1049 x84_16 a1_0 a1_1 a1_2 t1050 t1051 t1052 t1053 t1054 t1055 t1056 t1057 t1058 t1008 t1009 t1010 t1023 t1024 t1025 = some r) ∧ Aside0 (kq ≤ k1) ∧ Aside0 (wc.heap[gb982]? = some (.cells #[.int .i64 a1_0, .int .i64 a1_1, .int .i64 a1_2] 23 (0, 0))) ∧ Aside0 (wc.heap[gb1021]? = some (.cells #[.int .i64 t1005, .int .i64 t1006, .int .i64 t1007] 23 (0, 0))) ∧ Aside0 (wc.heap[gb1022]? = some (.cells #[.int .i64 t1008, .int .i64 t1009, .int .i64 t1010] 23 (0, 0))) ∧ Aside0 (wc.heap[gb1036]? = some (.cells #[.int .i64 t1023, .int .i64 t1024, .int .i64 t1025] 23 (0, 0))) ∧ Aside0 (IsS62 w wc g993 t1050 t1051 t1052 t1053 t1054 t1055 t1056 t1057 t1058) ∧ Aside0 (Below w.heap.size w wc))
      case first =>
       have H := HC17.out
       clear HC17
       by_cases c38 : t1026 = 30
       ·rw [if_pos c38] at H
        have c38b0 : (t1026 == 30) = true := beq_iff_eq.mpr c38
        have c38b1 : (t1026 != 30) = false := bne_eq_false_iff_eq.mpr c38
        clear c38
        (first | rw [c38b0] | (simp only [i64_w, i32_w]; rw [c38b0]) | skip)
        by_cases c39 : x9_1 = 1
        ·rw [if_pos c39] at H
         have c39b0 : (x9_1 == 1) = true := beq_iff_eq.mpr c39
         have c39b1 : (x9_1 != 1) = false := bne_eq_false_iff_eq.mpr c39
         clear c39
         have H' := a0_ H
         clear H
         have hnb40 := NB1022_982.out
         have hnc40 := NB982_1022.out
         have hnb41 := NB1022_1021.out
         have hnc41 := NB1021_1022.out
         have hnb42 := NB1022_1036.out
         have hnc42 := NB1036_1022.out
         have hnb43 := NB1022_993.out
         have hnc43 := NB993_1022.out
         have hcz44_0 : w37.cell? ⟨gb1022, 0, none⟩ = some (.int .i64 t1008) := (bC_ BK1022.out 0).trans rfl
         have hcz44_1 : w37.cell? ⟨gb1022, 1, none⟩ = some (.int .i64 t1009) := (bC_ BK1022.out 1).trans rfl
         have hcz44_2 : w37.cell? ⟨gb1022, 2, none⟩ = some (.int .i64 t1010) := (bC_ BK1022.out 2).trans rfl
         have hfz44_0 := bF_ BK1022.out 0
         have hfz44_1 := bF_ BK1022.out 1
         have hfz44_2 := bF_ BK1022.out 2
         go_wp2
         go_meet
         case rel => exact ⟨_, ((t1008 == 1900)), (by first | rfl | (simp; done) | (simp [*]; done)), H', ⟨by have := HK1.out; first | omega | exact Nat.le_refl _⟩, ⟨by (with_reducible repeat first | apply bN_ | apply bD_ | apply bA_); exact BK982.out⟩, ⟨by (with_reducible repeat first | apply bN_ | apply bD_ | apply bA_); exact BK1021.out⟩, ⟨by (with_reducible repeat first | apply bN_ | apply bD_ | apply bA_); exact BK1022.out⟩, ⟨by (with_reducible repeat first | apply bN_ | apply bD_ | apply bA_); exact BK1036.out⟩, ⟨by repeat (first | (with_reducible first | exact HI993.out | apply sA_ | apply sN_ | apply sD_ | refine sF_ ?_ NB993_982.out _ | refine sF_ ?_ NB993_1021.out _ | refine sF_ ?_ NB993_1022.out _ | refine sF_ ?_ NB993_1036.out _) | exact HI993.out)⟩, ⟨by repeat (first | (with_reducible first | exact HB.out | apply lA_ | apply lN_ | apply lD_ | refine lS_ ?_ (sG_ HI993.out) | refine lS_ ?_ GE982.out | refine lS_ ?_ GE1021.out | refine lS_ ?_ GE1022.out | refine lS_ ?_ GE1036.out) | exact HB.out)⟩⟩
        ·rw [if_neg c39] at H
         have c39b0 : (x9_1 == 1) = false := beq_eq_false_iff_ne.mpr c39
         have c39b1 : (x9_1 != 1) = true := bne_iff_ne.mpr c39
         have H' := a0_ H
         clear H
         go_wp2
         go_meet
         case rel => exact ⟨_, (false), (by first | rfl | (simp; done) | (simp [*]; done)), H', ⟨by have := HK1.out; first | omega | exact Nat.le_refl _⟩, ⟨by (with_reducible repeat first | apply bN_ | apply bD_ | apply bA_); exact BK982.out⟩, ⟨by (with_reducible repeat first | apply bN_ | apply bD_ | apply bA_); exact BK1021.out⟩, ⟨by (with_reducible repeat first | apply bN_ | apply bD_ | apply bA_); exact BK1022.out⟩, ⟨by (with_reducible repeat first | apply bN_ | apply bD_ | apply bA_); exact BK1036.out⟩, ⟨by repeat (first | (with_reducible first | exact HI993.out | apply sA_ | apply sN_ | apply sD_ | refine sF_ ?_ NB993_982.out _ | refine sF_ ?_ NB993_1021.out _ | refine sF_ ?_ NB993_1022.out _ | refine sF_ ?_ NB993_1036.out _) | exact HI993.out)⟩, ⟨by repeat (first | (with_reducible first | exact HB.out | apply lA_ | apply lN_ | apply lD_ | refine lS_ ?_ (sG_ HI993.out) | refine lS_ ?_ GE982.out | refine lS_ ?_ GE1021.out | refine lS_ ?_ GE1022.out | refine lS_ ?_ GE1036.out) | exact HB.out)⟩⟩
       ·rw [if_neg c38] at H
        have c38b0 : (t1026 == 30) = false := beq_eq_false_iff_ne.mpr c38
        have c38b1 : (t1026 != 30) = true := bne_iff_ne.mpr c38
        (first | rw [c38b0] | (simp only [i64_w, i32_w]; rw [c38b0]) | skip)
        have H' := a0_ H
        clear H
        go_wp2
        go_meet
        case rel => exact ⟨_, (false), (by first | rfl | (simp; done) | (simp [*]; done)), H', ⟨by have := HK1.out; first | omega | exact Nat.le_refl _⟩, ⟨by (with_reducible repeat first | apply bN_ | apply bD_ | apply bA_); exact BK982.out⟩, ⟨by (with_reducible repeat first | apply bN_ | apply bD_ | apply bA_); exact BK1021.out⟩, ⟨by (with_reducible repeat first | apply bN_ | apply bD_ | apply bA_); exact BK1022.out⟩, ⟨by (with_reducible repeat first | apply bN_ | apply bD_ | apply bA_); exact BK1036.out⟩, ⟨by repeat (first | (with_reducible first | exact HI993.out | apply sA_ | apply sN_ | apply sD_ | refine sF_ ?_ NB993_982.out _ | refine sF_ ?_ NB993_1021.out _ | refine sF_ ?_ NB993_1022.out _ | refine sF_ ?_ NB993_1036.out _) | exact HI993.out)⟩, ⟨by repeat (first | (with_reducible first | exact HB.out | apply lA_ | apply lN_ | apply lD_ | refine lS_ ?_ (sG_ HI993.out) | refine lS_ ?_ GE982.out | refine lS_ ?_ GE1021.out | refine lS_ ?_ GE1022.out | refine lS_ ?_ GE1036.out) | exact HB.out)⟩⟩
      case rest =>
       clear HC17
       try clear c4
       try clear c5
       try clear c5b0
       try clear c12
       try clear c12b0
       try clear c38
       try clear c38b0
       try clear c38b1
       try clear c39
       try clear c39b0
       try clear c39b1
       try clear hcz25_0
       try clear hcz25_1
       try clear hcz25_2
       try clear hcz28_0
       try clear hcz28_1
       try clear hcz28_2
       try clear hcz35_0
       try clear hcz35_1
       try clear hcz35_2
       try clear hcz44_0
       try clear hcz44_1
       try clear hcz44_2
       try clear hcz9_0
       try clear hcz9_1
       try clear hcz9_2
       try clear hfz25_0
       try clear hfz25_1
       try clear hfz25_2
       try clear hfz28_0
       try clear hfz28_1
       try clear hfz28_2
       try clear hfz35_0
       try clear hfz35_1
       try clear hfz35_2
       try clear hfz44_0
       try clear hfz44_1
       try clear hfz44_2
       try clear hfz9_0
       try clear hfz9_1
       try clear hfz9_2
       obtain ⟨kq, x84_16, rfl, HA, HJ16, BK982, BK1021, BK1022, BK1036, HI993, HB⟩ := hcut
       cases kq with
       | zero => exact absurd HA.out (by simp [stipendlaw04_PeriodPays.j1])
       | succ kj16 =>
        have H := HA.out
        clear HA
        simp only [stipendlaw04_PeriodPays.j1] at H
        by_cases c45 : x84_16 = true
        ·subst c45
         have H1 : (stipendlaw04_PeriodPays.l0 kj16 x7_1 x8_1 (wrap64 (x9_1 + 1)) a1_0 a1_1 a1_2 t1050 t1051 t1052 t1053 t1054 t1055 t1056 t1057 t1058) = some r := by rw [if_pos rfl] at H; exact H
         clear H
         have H := H1
         clear H1
         have H' := a0_ H
         clear H
         go_wp2
         go_roundg kj16
         case measure => have := HK1.out; have := HJ16.out; omega
         case rel => exact ⟨(x7_1), (x8_1), (wrap64 (x9_1 + 1)), (t1050), (t1051), (t1052), (t1053), (t1054), (t1055), (t1056), (t1057), (t1058), (by first | rfl | (simp; done) | (simp [*]; done)), (by first | rfl | (simp; done) | (simp [*]; done)), (by first | rfl | (simp; done) | (simp [*]; done)), H', ⟨by have := HK1.out; have := HJ16.out; omega⟩, ⟨by (with_reducible repeat first | apply bN_ | apply bD_ | apply bA_); exact BK982.out⟩, ⟨by repeat (first | (with_reducible first | exact HI993.out | apply sA_ | apply sN_ | apply sD_ | refine sF_ ?_ NB993_982.out _ | refine sF_ ?_ NB993_1021.out _ | refine sF_ ?_ NB993_1022.out _ | refine sF_ ?_ NB993_1036.out _) | exact HI993.out)⟩, ⟨by repeat (first | (with_reducible first | exact HB.out | apply lA_ | apply lN_ | apply lD_ | refine lS_ ?_ (sG_ HI993.out) | refine lS_ ?_ GE982.out | refine lS_ ?_ GE1021.out | refine lS_ ?_ GE1022.out | refine lS_ ?_ GE1036.out) | exact HB.out)⟩⟩
        ·replace c45 := Bool.eq_false_iff.mpr c45
         subst c45
         have H1 : ((date_Between.f kj16 t1023 t1024 t1025 t1008 t1009 t1010).bind fun bt1059 => (if (wrap64 ((wrap64 ((wrap64 (t1026 + t1038)) + t1049)) + bt1059.2)) = 0 then ((date_Workday.f kj16 t1023 t1024 t1025).bind fun t1061 => (if t1061 = true then (if bt1059.1 < 0 then (stipendlaw04_PeriodPays.j2 kj16 x7_1 x9_1 t1037 t1048 true a1_0 a1_1 a1_2 t1050 t1051 t1052 t1053 t1054 t1055 t1056 t1057 t1058 t1008 t1009 t1010) else (if bt1059.1 > 2 then (stipendlaw04_PeriodPays.j2 kj16 x7_1 x9_1 t1037 t1048 true a1_0 a1_1 a1_2 t1050 t1051 t1052 t1053 t1054 t1055 t1056 t1057 t1058 t1008 t1009 t1010) else (if t1037 < x8_1 then (stipendlaw04_PeriodPays.j2 kj16 x7_1 x9_1 t1037 t1048 true a1_0 a1_1 a1_2 t1050 t1051 t1052 t1053 t1054 t1055 t1056 t1057 t1058 t1008 t1009 t1010) else (if t1037 > 4 then (stipendlaw04_PeriodPays.j2 kj16 x7_1 x9_1 t1037 t1048 true a1_0 a1_1 a1_2 t1050 t1051 t1052 t1053 t1054 t1055 t1056 t1057 t1058 t1008 t1009 t1010) else (stipendlaw04_PeriodPays.j2 kj16 x7_1 x9_1 t1037 t1048 (decide (t1048 < 1)) a1_0 a1_1 a1_2 t1050 t1051 t1052 t1053 t1054 t1055 t1056 t1057 t1058 t1008 t1009 t1010))))) else (stipendlaw04_PeriodPays.j2 kj16 x7_1 x9_1 t1037 t1048 true a1_0 a1_1 a1_2 t1050 t1051 t1052 t1053 t1054 t1055 t1056 t1057 t1058 t1008 t1009 t1010))) else (stipendlaw04_PeriodPays.j2 kj16 x7_1 x9_1 t1037 t1048 true a1_0 a1_1 a1_2 t1050 t1051 t1052 t1053 t1054 t1055 t1056 t1057 t1058 t1008 t1009 t1010))) = some r := by rw [if_neg (show ¬ (false = true) by decide)] at H; exact H
         clear H
         have H := H1
         clear H1
         replace H := oB_ H
         obtain ⟨⟨t1059, t1060⟩, A460, H⟩ := H
         replace H : (if (wrap64 ((wrap64 ((wrap64 (t1026 + t1038)) + t1049)) + t1060)) = 0 then ((date_Workday.f kj16 t1023 t1024 t1025).bind fun t1061 => (if t1061 = true then (if t1059 < 0 then (stipendlaw04_PeriodPays.j2 kj16 x7_1 x9_1 t1037 t1048 true a1_0 a1_1 a1_2 t1050 t1051 t1052 t1053 t1054 t1055 t1056 t1057 t1058 t1008 t1009 t1010) else (if t1059 > 2 then (stipendlaw04_PeriodPays.j2 kj16 x7_1 x9_1 t1037 t1048 true a1_0 a1_1 a1_2 t1050 t1051 t1052 t1053 t1054 t1055 t1056 t1057 t1058 t1008 t1009 t1010) else (if t1037 < x8_1 then (stipendlaw04_PeriodPays.j2 kj16 x7_1 x9_1 t1037 t1048 true a1_0 a1_1 a1_2 t1050 t1051 t1052 t1053 t1054 t1055 t1056 t1057 t1058 t1008 t1009 t1010) else (if t1037 > 4 then (stipendlaw04_PeriodPays.j2 kj16 x7_1 x9_1 t1037 t1048 true a1_0 a1_1 a1_2 t1050 t1051 t1052 t1053 t1054 t1055 t1056 t1057 t1058 t1008 t1009 t1010) else (stipendlaw04_PeriodPays.j2 kj16 x7_1 x9_1 t1037 t1048 (decide (t1048 < 1)) a1_0 a1_1 a1_2 t1050 t1051 t1052 t1053 t1054 t1055 t1056 t1057 t1058 t1008 t1009 t1010))))) else (stipendlaw04_PeriodPays.j2 kj16 x7_1 x9_1 t1037 t1048 true a1_0 a1_1 a1_2 t1050 t1051 t1052 t1053 t1054 t1055 t1056 t1057 t1058 t1008 t1009 t1010))) else (stipendlaw04_PeriodPays.j2 kj16 x7_1 x9_1 t1037 t1048 true a1_0 a1_1 a1_2 t1050 t1051 t1052 t1053 t1054 t1055 t1056 t1057 t1058 t1008 t1009 t1010)) = some r := H
         have A46 := a0_ A460
         clear A460
         have HC47 := a0_ H
         clear H
         have hnb48 := NB1036_982.out
         have hnc48 := NB982_1036.out
         have hnb49 := NB1036_1021.out
         have hnc49 := NB1021_1036.out
         have hnb50 := NB1036_1022.out
         have hnc50 := NB1022_1036.out
         have hnb51 := NB1036_993.out
         have hnc51 := NB993_1036.out
         have hcz52_0 : wc.cell? ⟨gb1036, 0, none⟩ = some (.int .i64 t1023) := (bC_ BK1036.out 0).trans rfl
         have hcz52_1 : wc.cell? ⟨gb1036, 1, none⟩ = some (.int .i64 t1024) := (bC_ BK1036.out 1).trans rfl
         have hcz52_2 : wc.cell? ⟨gb1036, 2, none⟩ = some (.int .i64 t1025) := (bC_ BK1036.out 2).trans rfl
         have hfz52_0 := bF_ BK1036.out 0
         have hfz52_1 := bF_ BK1036.out 1
         have hfz52_2 := bF_ BK1036.out 2
         have hnb53 := NB1022_982.out
         have hnc53 := NB982_1022.out
         have hnb54 := NB1022_1021.out
         have hnc54 := NB1021_1022.out
         have hnb55 := NB1022_993.out
         have hnc55 := NB993_1022.out
         have hcz56_0 : wc.cell? ⟨gb1022, 0, none⟩ = some (.int .i64 t1008) := (bC_ BK1022.out 0).trans rfl
         have hcz56_1 : wc.cell? ⟨gb1022, 1, none⟩ = some (.int .i64 t1009) := (bC_ BK1022.out 1).trans rfl
         have hcz56_2 : wc.cell? ⟨gb1022, 2, none⟩ = some (.int .i64 t1010) := (bC_ BK1022.out 2).trans rfl
         have hfz56_0 := bF_ BK1022.out 0
         have hfz56_1 := bF_ BK1022.out 1
         have hfz56_2 := bF_ BK1022.out 2
         go_upto_region 16 with (first | ((with_reducible refine gate_callee (f := 16) rfl ?_); refine goesL_ (some 88) rfl rfl Try.func16 (by kernel_rfl) rfl #[.agg #[.int .i64 t1023, .int .i64 t1024, .int .i64 t1025], .agg #[.int .i64 t1008, .int .i64 t1009, .int .i64 t1010]] rfl (by (try simp only [List.map_toArray, List.map_cons, List.map_nil]); first | done | rfl) ?_; (with_reducible refine (date_Between.calls kj16 t1023 t1024 t1025 t1008 t1009 t1010 t1059 t1060 _ A46.out).mono ?_); rintro e w57 ⟨rfl, hb⟩; refine ⟨_, rfl, ?_⟩; have n0_ := a0_ (bB_ (g := gb982) (o := .cells #[.int .i64 a1_0, .int .i64 a1_1, .int .i64 a1_2] 23 (0, 0)) (by (with_reducible repeat first | apply bN_ | apply bD_ | apply bA_); exact BK982.out) hb); have n1_ := a0_ (bB_ (g := gb1021) (o := .cells #[.int .i64 t1005, .int .i64 t1006, .int .i64 t1007] 23 (0, 0)) (by (with_reducible repeat first | apply bN_ | apply bD_ | apply bA_); exact BK1021.out) hb); have n2_ := a0_ (bB_ (g := gb1022) (o := .cells #[.int .i64 t1008, .int .i64 t1009, .int .i64 t1010] 23 (0, 0)) (by (with_reducible repeat first | apply bN_ | apply bD_ | apply bA_); exact BK1022.out) hb); have n3_ := a0_ (bB_ (g := gb1036) (o := .cells #[.int .i64 t1023, .int .i64 t1024, .int .i64 t1025] 23 (0, 0)) (by (with_reducible repeat first | apply bN_ | apply bD_ | apply bA_); exact BK1036.out) hb); have n4_ := a0_ (IsS62.below (by repeat (first | (with_reducible first | exact HI993.out | apply sA_ | apply sN_ | apply sD_ | refine sF_ ?_ NB993_982.out _ | refine sF_ ?_ NB993_1021.out _ | refine sF_ ?_ NB993_1022.out _ | refine sF_ ?_ NB993_1036.out _) | exact HI993.out)) hb); have n5_ := a0_ (below_step (by repeat (first | (with_reducible first | exact HB.out | apply lA_ | apply lN_ | apply lD_ | refine lS_ ?_ (sG_ HI993.out) | refine lS_ ?_ GE982.out | refine lS_ ?_ GE1021.out | refine lS_ ?_ GE1022.out | refine lS_ ?_ GE1036.out) | exact HB.out)) hb); clear BK982; clear BK1021; clear BK1022; clear BK1036; clear HI993; clear HB; have BK982 := n0_; have BK1021 := n1_; have BK1022 := n2_; have BK1036 := n3_; have HI993 := n4_; have HB := n5_; clear n0_ n1_ n2_ n3_ n4_ n5_; (try clear hb); (try clear hb2); (try clear hk); (try clear hi)))
         (try simp only [Act.put, zA_, zB_, zC_])
         go_cut [124] (fun v124 wc => ∃ (kq : Nat) (x124_46 : Bool), v124 = .bool x124_46 ∧ Aside0 (stipendlaw04_PeriodPays.j2 kq x7_1 x9_1 t1037 t1048 x124_46 a1_0 a1_1 a1_2 t1050 t1051 t1052 t1053 t1054 t1055 t1056 t1057 t1058 t1008 t1009 t1010 = some r) ∧ Aside0 (kq ≤ kj16) ∧ Aside0 (wc.heap[gb982]? = some (.cells #[.int .i64 a1_0, .int .i64 a1_1, .int .i64 a1_2] 23 (0, 0))) ∧ Aside0 (wc.heap[gb1021]? = some (.cells #[.int .i64 t1005, .int .i64 t1006, .int .i64 t1007] 23 (0, 0))) ∧ Aside0 (wc.heap[gb1022]? = some (.cells #[.int .i64 t1008, .int .i64 t1009, .int .i64 t1010] 23 (0, 0))) ∧ Aside0 (wc.heap[gb1036]? = some (.cells #[.int .i64 t1023, .int .i64 t1024, .int .i64 t1025] 23 (0, 0))) ∧ Aside0 (IsS62 w wc g993 t1050 t1051 t1052 t1053 t1054 t1055 t1056 t1057 t1058) ∧ Aside0 (Below w.heap.size w wc))
         case first =>
          have H := HC47.out
          clear HC47
          by_cases c58 : (wrap64 ((wrap64 ((wrap64 (t1026 + t1038)) + t1049)) + t1060)) = 0
          ·rw [if_pos c58] at H
           have c58b0 : ((wrap64 ((wrap64 ((wrap64 (t1026 + t1038)) + t1049)) + t1060)) == 0) = true := beq_iff_eq.mpr c58
           have c58b1 : ((wrap64 ((wrap64 ((wrap64 (t1026 + t1038)) + t1049)) + t1060)) != 0) = false := bne_eq_false_iff_eq.mpr c58
           clear c58
           (first | rw [c58b0] | (simp only [i64_w, i32_w]; rw [c58b0]) | skip)
           replace H := oB_ H
           obtain ⟨t1061, A590, H⟩ := H
           replace H : (if t1061 = true then (if t1059 < 0 then (stipendlaw04_PeriodPays.j2 kj16 x7_1 x9_1 t1037 t1048 true a1_0 a1_1 a1_2 t1050 t1051 t1052 t1053 t1054 t1055 t1056 t1057 t1058 t1008 t1009 t1010) else (if t1059 > 2 then (stipendlaw04_PeriodPays.j2 kj16 x7_1 x9_1 t1037 t1048 true a1_0 a1_1 a1_2 t1050 t1051 t1052 t1053 t1054 t1055 t1056 t1057 t1058 t1008 t1009 t1010) else (if t1037 < x8_1 then (stipendlaw04_PeriodPays.j2 kj16 x7_1 x9_1 t1037 t1048 true a1_0 a1_1 a1_2 t1050 t1051 t1052 t1053 t1054 t1055 t1056 t1057 t1058 t1008 t1009 t1010) else (if t1037 > 4 then (stipendlaw04_PeriodPays.j2 kj16 x7_1 x9_1 t1037 t1048 true a1_0 a1_1 a1_2 t1050 t1051 t1052 t1053 t1054 t1055 t1056 t1057 t1058 t1008 t1009 t1010) else (stipendlaw04_PeriodPays.j2 kj16 x7_1 x9_1 t1037 t1048 (decide (t1048 < 1)) a1_0 a1_1 a1_2 t1050 t1051 t1052 t1053 t1054 t1055 t1056 t1057 t1058 t1008 t1009 t1010))))) else (stipendlaw04_PeriodPays.j2 kj16 x7_1 x9_1 t1037 t1048 true a1_0 a1_1 a1_2 t1050 t1051 t1052 t1053 t1054 t1055 t1056 t1057 t1058 t1008 t1009 t1010)) = some r := H
           have A59 := a0_ A590
           clear A590
           by_cases c60 : t1061 = true
           ·subst c60
            have H1 : (if t1059 < 0 then (stipendlaw04_PeriodPays.j2 kj16 x7_1 x9_1 t1037 t1048 true a1_0 a1_1 a1_2 t1050 t1051 t1052 t1053 t1054 t1055 t1056 t1057 t1058 t1008 t1009 t1010) else (if t1059 > 2 then (stipendlaw04_PeriodPays.j2 kj16 x7_1 x9_1 t1037 t1048 true a1_0 a1_1 a1_2 t1050 t1051 t1052 t1053 t1054 t1055 t1056 t1057 t1058 t1008 t1009 t1010) else (if t1037 < x8_1 then (stipendlaw04_PeriodPays.j2 kj16 x7_1 x9_1 t1037 t1048 true a1_0 a1_1 a1_2 t1050 t1051 t1052 t1053 t1054 t1055 t1056 t1057 t1058 t1008 t1009 t1010) else (if t1037 > 4 then (stipendlaw04_PeriodPays.j2 kj16 x7_1 x9_1 t1037 t1048 true a1_0 a1_1 a1_2 t1050 t1051 t1052 t1053 t1054 t1055 t1056 t1057 t1058 t1008 t1009 t1010) else (stipendlaw04_PeriodPays.j2 kj16 x7_1 x9_1 t1037 t1048 (decide (t1048 < 1)) a1_0 a1_1 a1_2 t1050 t1051 t1052 t1053 t1054 t1055 t1056 t1057 t1058 t1008 t1009 t1010))))) = some r := by rw [if_pos rfl] at H; exact H
            clear H
            have H := H1
            clear H1
            by_cases c61 : t1059 < 0
            ·rw [if_pos c61] at H
             have c61b0 : decide (t1059 < 0) = true := decide_eq_true c61
             clear c61
             have H' := a0_ H
             clear H
             have hnb62 := NB1036_982.out
             have hnc62 := NB982_1036.out
             have hnb63 := NB1036_1021.out
             have hnc63 := NB1021_1036.out
             have hnb64 := NB1036_1022.out
             have hnc64 := NB1022_1036.out
             have hnb65 := NB1036_993.out
             have hnc65 := NB993_1036.out
             have hcz66_0 : w57.cell? ⟨gb1036, 0, none⟩ = some (.int .i64 t1023) := (bC_ BK1036.out 0).trans rfl
             have hcz66_1 : w57.cell? ⟨gb1036, 1, none⟩ = some (.int .i64 t1024) := (bC_ BK1036.out 1).trans rfl
             have hcz66_2 : w57.cell? ⟨gb1036, 2, none⟩ = some (.int .i64 t1025) := (bC_ BK1036.out 2).trans rfl
             have hfz66_0 := bF_ BK1036.out 0
             have hfz66_1 := bF_ BK1036.out 1
             have hfz66_2 := bF_ BK1036.out 2
             go_wp2_with (first | (go_at_call 34; (with_reducible refine (date_Workday.calls kj16 t1023 t1024 t1025 true _ A59.out).mono ?_); rintro e w67 ⟨rfl, hb⟩; have n0_ := a0_ (bB_ (g := gb982) (o := .cells #[.int .i64 a1_0, .int .i64 a1_1, .int .i64 a1_2] 23 (0, 0)) (by (with_reducible repeat first | apply bN_ | apply bD_ | apply bA_); exact BK982.out) hb); have n1_ := a0_ (bB_ (g := gb1021) (o := .cells #[.int .i64 t1005, .int .i64 t1006, .int .i64 t1007] 23 (0, 0)) (by (with_reducible repeat first | apply bN_ | apply bD_ | apply bA_); exact BK1021.out) hb); have n2_ := a0_ (bB_ (g := gb1022) (o := .cells #[.int .i64 t1008, .int .i64 t1009, .int .i64 t1010] 23 (0, 0)) (by (with_reducible repeat first | apply bN_ | apply bD_ | apply bA_); exact BK1022.out) hb); have n3_ := a0_ (bB_ (g := gb1036) (o := .cells #[.int .i64 t1023, .int .i64 t1024, .int .i64 t1025] 23 (0, 0)) (by (with_reducible repeat first | apply bN_ | apply bD_ | apply bA_); exact BK1036.out) hb); have n4_ := a0_ (IsS62.below (by repeat (first | (with_reducible first | exact HI993.out | apply sA_ | apply sN_ | apply sD_ | refine sF_ ?_ NB993_982.out _ | refine sF_ ?_ NB993_1021.out _ | refine sF_ ?_ NB993_1022.out _ | refine sF_ ?_ NB993_1036.out _) | exact HI993.out)) hb); have n5_ := a0_ (below_step (by repeat (first | (with_reducible first | exact HB.out | apply lA_ | apply lN_ | apply lD_ | refine lS_ ?_ (sG_ HI993.out) | refine lS_ ?_ GE982.out | refine lS_ ?_ GE1021.out | refine lS_ ?_ GE1022.out | refine lS_ ?_ GE1036.out) | exact HB.out)) hb); clear BK982; clear BK1021; clear BK1022; clear BK1036; clear HI993; clear HB; have BK982 := n0_; have BK1021 := n1_; have BK1022 := n2_; have BK1036 := n3_; have HI993 := n4_; have HB := n5_; clear n0_ n1_ n2_ n3_ n4_ n5_; (try clear hb); (try clear hb2); (try clear hk); (try clear hi)))
             go_meet
             case rel => exact ⟨_, (true), (by first | rfl | (simp; done) | (simp [*]; done)), H', ⟨by have := HK1.out; have := HJ16.out; first | omega | exact Nat.le_refl _⟩, ⟨by (with_reducible repeat first | apply bN_ | apply bD_ | apply bA_); exact BK982.out⟩, ⟨by (with_reducible repeat first | apply bN_ | apply bD_ | apply bA_); exact BK1021.out⟩, ⟨by (with_reducible repeat first | apply bN_ | apply bD_ | apply bA_); exact BK1022.out⟩, ⟨by (with_reducible repeat first | apply bN_ | apply bD_ | apply bA_); exact BK1036.out⟩, ⟨by repeat (first | (with_reducible first | exact HI993.out | apply sA_ | apply sN_ | apply sD_ | refine sF_ ?_ NB993_982.out _ | refine sF_ ?_ NB993_1021.out _ | refine sF_ ?_ NB993_1022.out _ | refine sF_ ?_ NB993_1036.out _) | exact HI993.out)⟩, ⟨by repeat (first | (with_reducible first | exact HB.out | apply lA_ | apply lN_ | apply lD_ | refine lS_ ?_ (sG_ HI993.out) | refine lS_ ?_ GE982.out | refine lS_ ?_ GE1021.out | refine lS_ ?_ GE1022.out | refine lS_ ?_ GE1036.out) | exact HB.out)⟩⟩
            ·rw [if_neg c61] at H
             have c61b0 : decide (t1059 < 0) = false := decide_eq_false c61
             clear c61
             by_cases c68 : t1059 > 2
             ·rw [if_pos c68] at H
              have c68b0 : decide (2 < t1059) = true := decide_eq_true c68
              clear c68
              have H' := a0_ H
              clear H
              have hnb69 := NB1036_982.out
              have hnc69 := NB982_1036.out
              have hnb70 := NB1036_1021.out
              have hnc70 := NB1021_1036.out
              have hnb71 := NB1036_1022.out
              have hnc71 := NB1022_1036.out
              have hnb72 := NB1036_993.out
              have hnc72 := NB993_1036.out
              have hcz73_0 : w57.cell? ⟨gb1036, 0, none⟩ = some (.int .i64 t1023) := (bC_ BK1036.out 0).trans rfl
              have hcz73_1 : w57.cell? ⟨gb1036, 1, none⟩ = some (.int .i64 t1024) := (bC_ BK1036.out 1).trans rfl
              have hcz73_2 : w57.cell? ⟨gb1036, 2, none⟩ = some (.int .i64 t1025) := (bC_ BK1036.out 2).trans rfl
              have hfz73_0 := bF_ BK1036.out 0
              have hfz73_1 := bF_ BK1036.out 1
              have hfz73_2 := bF_ BK1036.out 2
              go_wp2_with (first | (go_at_call 34; (with_reducible refine (date_Workday.calls kj16 t1023 t1024 t1025 true _ A59.out).mono ?_); rintro e w74 ⟨rfl, hb⟩; have n0_ := a0_ (bB_ (g := gb982) (o := .cells #[.int .i64 a1_0, .int .i64 a1_1, .int .i64 a1_2] 23 (0, 0)) (by (with_reducible repeat first | apply bN_ | apply bD_ | apply bA_); exact BK982.out) hb); have n1_ := a0_ (bB_ (g := gb1021) (o := .cells #[.int .i64 t1005, .int .i64 t1006, .int .i64 t1007] 23 (0, 0)) (by (with_reducible repeat first | apply bN_ | apply bD_ | apply bA_); exact BK1021.out) hb); have n2_ := a0_ (bB_ (g := gb1022) (o := .cells #[.int .i64 t1008, .int .i64 t1009, .int .i64 t1010] 23 (0, 0)) (by (with_reducible repeat first | apply bN_ | apply bD_ | apply bA_); exact BK1022.out) hb); have n3_ := a0_ (bB_ (g := gb1036) (o := .cells #[.int .i64 t1023, .int .i64 t1024, .int .i64 t1025] 23 (0, 0)) (by (with_reducible repeat first | apply bN_ | apply bD_ | apply bA_); exact BK1036.out) hb); have n4_ := a0_ (IsS62.below (by repeat (first | (with_reducible first | exact HI993.out | apply sA_ | apply sN_ | apply sD_ | refine sF_ ?_ NB993_982.out _ | refine sF_ ?_ NB993_1021.out _ | refine sF_ ?_ NB993_1022.out _ | refine sF_ ?_ NB993_1036.out _) | exact HI993.out)) hb); have n5_ := a0_ (below_step (by repeat (first | (with_reducible first | exact HB.out | apply lA_ | apply lN_ | apply lD_ | refine lS_ ?_ (sG_ HI993.out) | refine lS_ ?_ GE982.out | refine lS_ ?_ GE1021.out | refine lS_ ?_ GE1022.out | refine lS_ ?_ GE1036.out) | exact HB.out)) hb); clear BK982; clear BK1021; clear BK1022; clear BK1036; clear HI993; clear HB; have BK982 := n0_; have BK1021 := n1_; have BK1022 := n2_; have BK1036 := n3_; have HI993 := n4_; have HB := n5_; clear n0_ n1_ n2_ n3_ n4_ n5_; (try clear hb); (try clear hb2); (try clear hk); (try clear hi)))
              go_meet
              case rel => exact ⟨_, (true), (by first | rfl | (simp; done) | (simp [*]; done)), H', ⟨by have := HK1.out; have := HJ16.out; first | omega | exact Nat.le_refl _⟩, ⟨by (with_reducible repeat first | apply bN_ | apply bD_ | apply bA_); exact BK982.out⟩, ⟨by (with_reducible repeat first | apply bN_ | apply bD_ | apply bA_); exact BK1021.out⟩, ⟨by (with_reducible repeat first | apply bN_ | apply bD_ | apply bA_); exact BK1022.out⟩, ⟨by (with_reducible repeat first | apply bN_ | apply bD_ | apply bA_); exact BK1036.out⟩, ⟨by repeat (first | (with_reducible first | exact HI993.out | apply sA_ | apply sN_ | apply sD_ | refine sF_ ?_ NB993_982.out _ | refine sF_ ?_ NB993_1021.out _ | refine sF_ ?_ NB993_1022.out _ | refine sF_ ?_ NB993_1036.out _) | exact HI993.out)⟩, ⟨by repeat (first | (with_reducible first | exact HB.out | apply lA_ | apply lN_ | apply lD_ | refine lS_ ?_ (sG_ HI993.out) | refine lS_ ?_ GE982.out | refine lS_ ?_ GE1021.out | refine lS_ ?_ GE1022.out | refine lS_ ?_ GE1036.out) | exact HB.out)⟩⟩
             ·rw [if_neg c68] at H
              have c68b0 : decide (2 < t1059) = false := decide_eq_false c68
              clear c68
              by_cases c75 : t1037 < x8_1
              ·rw [if_pos c75] at H
               have c75b0 : decide (t1037 < x8_1) = true := decide_eq_true c75
               clear c75
               have H' := a0_ H
               clear H
               have hnb76 := NB1036_982.out
               have hnc76 := NB982_1036.out
               have hnb77 := NB1036_1021.out
               have hnc77 := NB1021_1036.out
               have hnb78 := NB1036_1022.out
               have hnc78 := NB1022_1036.out
               have hnb79 := NB1036_993.out
               have hnc79 := NB993_1036.out
               have hcz80_0 : w57.cell? ⟨gb1036, 0, none⟩ = some (.int .i64 t1023) := (bC_ BK1036.out 0).trans rfl
               have hcz80_1 : w57.cell? ⟨gb1036, 1, none⟩ = some (.int .i64 t1024) := (bC_ BK1036.out 1).trans rfl
               have hcz80_2 : w57.cell? ⟨gb1036, 2, none⟩ = some (.int .i64 t1025) := (bC_ BK1036.out 2).trans rfl
               have hfz80_0 := bF_ BK1036.out 0
               have hfz80_1 := bF_ BK1036.out 1
               have hfz80_2 := bF_ BK1036.out 2
               go_wp2_with (first | (go_at_call 34; (with_reducible refine (date_Workday.calls kj16 t1023 t1024 t1025 true _ A59.out).mono ?_); rintro e w81 ⟨rfl, hb⟩; have n0_ := a0_ (bB_ (g := gb982) (o := .cells #[.int .i64 a1_0, .int .i64 a1_1, .int .i64 a1_2] 23 (0, 0)) (by (with_reducible repeat first | apply bN_ | apply bD_ | apply bA_); exact BK982.out) hb); have n1_ := a0_ (bB_ (g := gb1021) (o := .cells #[.int .i64 t1005, .int .i64 t1006, .int .i64 t1007] 23 (0, 0)) (by (with_reducible repeat first | apply bN_ | apply bD_ | apply bA_); exact BK1021.out) hb); have n2_ := a0_ (bB_ (g := gb1022) (o := .cells #[.int .i64 t1008, .int .i64 t1009, .int .i64 t1010] 23 (0, 0)) (by (with_reducible repeat first | apply bN_ | apply bD_ | apply bA_); exact BK1022.out) hb); have n3_ := a0_ (bB_ (g := gb1036) (o := .cells #[.int .i64 t1023, .int .i64 t1024, .int .i64 t1025] 23 (0, 0)) (by (with_reducible repeat first | apply bN_ | apply bD_ | apply bA_); exact BK1036.out) hb); have n4_ := a0_ (IsS62.below (by repeat (first | (with_reducible first | exact HI993.out | apply sA_ | apply sN_ | apply sD_ | refine sF_ ?_ NB993_982.out _ | refine sF_ ?_ NB993_1021.out _ | refine sF_ ?_ NB993_1022.out _ | refine sF_ ?_ NB993_1036.out _) | exact HI993.out)) hb); have n5_ := a0_ (below_step (by repeat (first | (with_reducible first | exact HB.out | apply lA_ | apply lN_ | apply lD_ | refine lS_ ?_ (sG_ HI993.out) | refine lS_ ?_ GE982.out | refine lS_ ?_ GE1021.out | refine lS_ ?_ GE1022.out | refine lS_ ?_ GE1036.out) | exact HB.out)) hb); clear BK982; clear BK1021; clear BK1022; clear BK1036; clear HI993; clear HB; have BK982 := n0_; have BK1021 := n1_; have BK1022 := n2_; have BK1036 := n3_; have HI993 := n4_; have HB := n5_; clear n0_ n1_ n2_ n3_ n4_ n5_; (try clear hb); (try clear hb2); (try clear hk); (try clear hi)))
               go_meet
               case rel => exact ⟨_, (true), (by first | rfl | (simp; done) | (simp [*]; done)), H', ⟨by have := HK1.out; have := HJ16.out; first | omega | exact Nat.le_refl _⟩, ⟨by (with_reducible repeat first | apply bN_ | apply bD_ | apply bA_); exact BK982.out⟩, ⟨by (with_reducible repeat first | apply bN_ | apply bD_ | apply bA_); exact BK1021.out⟩, ⟨by (with_reducible repeat first | apply bN_ | apply bD_ | apply bA_); exact BK1022.out⟩, ⟨by (with_reducible repeat first | apply bN_ | apply bD_ | apply bA_); exact BK1036.out⟩, ⟨by repeat (first | (with_reducible first | exact HI993.out | apply sA_ | apply sN_ | apply sD_ | refine sF_ ?_ NB993_982.out _ | refine sF_ ?_ NB993_1021.out _ | refine sF_ ?_ NB993_1022.out _ | refine sF_ ?_ NB993_1036.out _) | exact HI993.out)⟩, ⟨by repeat (first | (with_reducible first | exact HB.out | apply lA_ | apply lN_ | apply lD_ | refine lS_ ?_ (sG_ HI993.out) | refine lS_ ?_ GE982.out | refine lS_ ?_ GE1021.out | refine lS_ ?_ GE1022.out | refine lS_ ?_ GE1036.out) | exact HB.out)⟩⟩
              ·rw [if_neg c75] at H
               have c75b0 : decide (t1037 < x8_1) = false := decide_eq_false c75
               clear c75
               by_cases c82 : t1037 > 4
               ·rw [if_pos c82] at H
                have c82b0 : decide (4 < t1037) = true := decide_eq_true c82
                clear c82
                have H' := a0_ H
                clear H
                have hnb83 := NB1036_982.out
                have hnc83 := NB982_1036.out
                have hnb84 := NB1036_1021.out
                have hnc84 := NB1021_1036.out
                have hnb85 := NB1036_1022.out
                have hnc85 := NB1022_1036.out
                have hnb86 := NB1036_993.out
                have hnc86 := NB993_1036.out
                have hcz87_0 : w57.cell? ⟨gb1036, 0, none⟩ = some (.int .i64 t1023) := (bC_ BK1036.out 0).trans rfl
                have hcz87_1 : w57.cell? ⟨gb1036, 1, none⟩ = some (.int .i64 t1024) := (bC_ BK1036.out 1).trans rfl
                have hcz87_2 : w57.cell? ⟨gb1036, 2, none⟩ = some (.int .i64 t1025) := (bC_ BK1036.out 2).trans rfl
                have hfz87_0 := bF_ BK1036.out 0
                have hfz87_1 := bF_ BK1036.out 1
                have hfz87_2 := bF_ BK1036.out 2
                go_wp2_with (first | (go_at_call 34; (with_reducible refine (date_Workday.calls kj16 t1023 t1024 t1025 true _ A59.out).mono ?_); rintro e w88 ⟨rfl, hb⟩; have n0_ := a0_ (bB_ (g := gb982) (o := .cells #[.int .i64 a1_0, .int .i64 a1_1, .int .i64 a1_2] 23 (0, 0)) (by (with_reducible repeat first | apply bN_ | apply bD_ | apply bA_); exact BK982.out) hb); have n1_ := a0_ (bB_ (g := gb1021) (o := .cells #[.int .i64 t1005, .int .i64 t1006, .int .i64 t1007] 23 (0, 0)) (by (with_reducible repeat first | apply bN_ | apply bD_ | apply bA_); exact BK1021.out) hb); have n2_ := a0_ (bB_ (g := gb1022) (o := .cells #[.int .i64 t1008, .int .i64 t1009, .int .i64 t1010] 23 (0, 0)) (by (with_reducible repeat first | apply bN_ | apply bD_ | apply bA_); exact BK1022.out) hb); have n3_ := a0_ (bB_ (g := gb1036) (o := .cells #[.int .i64 t1023, .int .i64 t1024, .int .i64 t1025] 23 (0, 0)) (by (with_reducible repeat first | apply bN_ | apply bD_ | apply bA_); exact BK1036.out) hb); have n4_ := a0_ (IsS62.below (by repeat (first | (with_reducible first | exact HI993.out | apply sA_ | apply sN_ | apply sD_ | refine sF_ ?_ NB993_982.out _ | refine sF_ ?_ NB993_1021.out _ | refine sF_ ?_ NB993_1022.out _ | refine sF_ ?_ NB993_1036.out _) | exact HI993.out)) hb); have n5_ := a0_ (below_step (by repeat (first | (with_reducible first | exact HB.out | apply lA_ | apply lN_ | apply lD_ | refine lS_ ?_ (sG_ HI993.out) | refine lS_ ?_ GE982.out | refine lS_ ?_ GE1021.out | refine lS_ ?_ GE1022.out | refine lS_ ?_ GE1036.out) | exact HB.out)) hb); clear BK982; clear BK1021; clear BK1022; clear BK1036; clear HI993; clear HB; have BK982 := n0_; have BK1021 := n1_; have BK1022 := n2_; have BK1036 := n3_; have HI993 := n4_; have HB := n5_; clear n0_ n1_ n2_ n3_ n4_ n5_; (try clear hb); (try clear hb2); (try clear hk); (try clear hi)))
                go_meet
                case rel => exact ⟨_, (true), (by first | rfl | (simp; done) | (simp [*]; done)), H', ⟨by have := HK1.out; have := HJ16.out; first | omega | exact Nat.le_refl _⟩, ⟨by (with_reducible repeat first | apply bN_ | apply bD_ | apply bA_); exact BK982.out⟩, ⟨by (with_reducible repeat first | apply bN_ | apply bD_ | apply bA_); exact BK1021.out⟩, ⟨by (with_reducible repeat first | apply bN_ | apply bD_ | apply bA_); exact BK1022.out⟩, ⟨by (with_reducible repeat first | apply bN_ | apply bD_ | apply bA_); exact BK1036.out⟩, ⟨by repeat (first | (with_reducible first | exact HI993.out | apply sA_ | apply sN_ | apply sD_ | refine sF_ ?_ NB993_982.out _ | refine sF_ ?_ NB993_1021.out _ | refine sF_ ?_ NB993_1022.out _ | refine sF_ ?_ NB993_1036.out _) | exact HI993.out)⟩, ⟨by repeat (first | (with_reducible first | exact HB.out | apply lA_ | apply lN_ | apply lD_ | refine lS_ ?_ (sG_ HI993.out) | refine lS_ ?_ GE982.out | refine lS_ ?_ GE1021.out | refine lS_ ?_ GE1022.out | refine lS_ ?_ GE1036.out) | exact HB.out)⟩⟩
               ·rw [if_neg c82] at H
                have c82b0 : decide (4 < t1037) = false := decide_eq_false c82
                clear c82
                have H' := a0_ H
                clear H
                have hnb89 := NB1036_982.out
                have hnc89 := NB982_1036.out
                have hnb90 := NB1036_1021.out
                have hnc90 := NB1021_1036.out
                have hnb91 := NB1036_1022.out
                have hnc91 := NB1022_1036.out
                have hnb92 := NB1036_993.out
                have hnc92 := NB993_1036.out
                have hcz93_0 : w57.cell? ⟨gb1036, 0, none⟩ = some (.int .i64 t1023) := (bC_ BK1036.out 0).trans rfl
                have hcz93_1 : w57.cell? ⟨gb1036, 1, none⟩ = some (.int .i64 t1024) := (bC_ BK1036.out 1).trans rfl
                have hcz93_2 : w57.cell? ⟨gb1036, 2, none⟩ = some (.int .i64 t1025) := (bC_ BK1036.out 2).trans rfl
                have hfz93_0 := bF_ BK1036.out 0
                have hfz93_1 := bF_ BK1036.out 1
                have hfz93_2 := bF_ BK1036.out 2
                go_wp2_with (first | (go_at_call 34; (with_reducible refine (date_Workday.calls kj16 t1023 t1024 t1025 true _ A59.out).mono ?_); rintro e w94 ⟨rfl, hb⟩; have n0_ := a0_ (bB_ (g := gb982) (o := .cells #[.int .i64 a1_0, .int .i64 a1_1, .int .i64 a1_2] 23 (0, 0)) (by (with_reducible repeat first | apply bN_ | apply bD_ | apply bA_); exact BK982.out) hb); have n1_ := a0_ (bB_ (g := gb1021) (o := .cells #[.int .i64 t1005, .int .i64 t1006, .int .i64 t1007] 23 (0, 0)) (by (with_reducible repeat first | apply bN_ | apply bD_ | apply bA_); exact BK1021.out) hb); have n2_ := a0_ (bB_ (g := gb1022) (o := .cells #[.int .i64 t1008, .int .i64 t1009, .int .i64 t1010] 23 (0, 0)) (by (with_reducible repeat first | apply bN_ | apply bD_ | apply bA_); exact BK1022.out) hb); have n3_ := a0_ (bB_ (g := gb1036) (o := .cells #[.int .i64 t1023, .int .i64 t1024, .int .i64 t1025] 23 (0, 0)) (by (with_reducible repeat first | apply bN_ | apply bD_ | apply bA_); exact BK1036.out) hb); have n4_ := a0_ (IsS62.below (by repeat (first | (with_reducible first | exact HI993.out | apply sA_ | apply sN_ | apply sD_ | refine sF_ ?_ NB993_982.out _ | refine sF_ ?_ NB993_1021.out _ | refine sF_ ?_ NB993_1022.out _ | refine sF_ ?_ NB993_1036.out _) | exact HI993.out)) hb); have n5_ := a0_ (below_step (by repeat (first | (with_reducible first | exact HB.out | apply lA_ | apply lN_ | apply lD_ | refine lS_ ?_ (sG_ HI993.out) | refine lS_ ?_ GE982.out | refine lS_ ?_ GE1021.out | refine lS_ ?_ GE1022.out | refine lS_ ?_ GE1036.out) | exact HB.out)) hb); clear BK982; clear BK1021; clear BK1022; clear BK1036; clear HI993; clear HB; have BK982 := n0_; have BK1021 := n1_; have BK1022 := n2_; have BK1036 := n3_; have HI993 := n4_; have HB := n5_; clear n0_ n1_ n2_ n3_ n4_ n5_; (try clear hb); (try clear hb2); (try clear hk); (try clear hi)))
                go_meet
                case rel => exact ⟨_, (decide (t1048 < 1)), (by first | rfl | (simp; done) | (simp [*]; done)), H', ⟨by have := HK1.out; have := HJ16.out; first | omega | exact Nat.le_refl _⟩, ⟨by (with_reducible repeat first | apply bN_ | apply bD_ | apply bA_); exact BK982.out⟩, ⟨by (with_reducible repeat first | apply bN_ | apply bD_ | apply bA_); exact BK1021.out⟩, ⟨by (with_reducible repeat first | apply bN_ | apply bD_ | apply bA_); exact BK1022.out⟩, ⟨by (with_reducible repeat first | apply bN_ | apply bD_ | apply bA_); exact BK1036.out⟩, ⟨by repeat (first | (with_reducible first | exact HI993.out | apply sA_ | apply sN_ | apply sD_ | refine sF_ ?_ NB993_982.out _ | refine sF_ ?_ NB993_1021.out _ | refine sF_ ?_ NB993_1022.out _ | refine sF_ ?_ NB993_1036.out _) | exact HI993.out)⟩, ⟨by repeat (first | (with_reducible first | exact HB.out | apply lA_ | apply lN_ | apply lD_ | refine lS_ ?_ (sG_ HI993.out) | refine lS_ ?_ GE982.out | refine lS_ ?_ GE1021.out | refine lS_ ?_ GE1022.out | refine lS_ ?_ GE1036.out) | exact HB.out)⟩⟩
           ·replace c60 := Bool.eq_false_iff.mpr c60
            subst c60
            have H1 : (stipendlaw04_PeriodPays.j2 kj16 x7_1 x9_1 t1037 t1048 true a1_0 a1_1 a1_2 t1050 t1051 t1052 t1053 t1054 t1055 t1056 t1057 t1058 t1008 t1009 t1010) = some r := by rw [if_neg (show ¬ (false = true) by decide)] at H; exact H
            clear H
            have H := H1
            clear H1
            have H' := a0_ H
            clear H
            have hnb95 := NB1036_982.out
            have hnc95 := NB982_1036.out
            have hnb96 := NB1036_1021.out
            have hnc96 := NB1021_1036.out
            have hnb97 := NB1036_1022.out
            have hnc97 := NB1022_1036.out
            have hnb98 := NB1036_993.out
            have hnc98 := NB993_1036.out
            have hcz99_0 : w57.cell? ⟨gb1036, 0, none⟩ = some (.int .i64 t1023) := (bC_ BK1036.out 0).trans rfl
            have hcz99_1 : w57.cell? ⟨gb1036, 1, none⟩ = some (.int .i64 t1024) := (bC_ BK1036.out 1).trans rfl
            have hcz99_2 : w57.cell? ⟨gb1036, 2, none⟩ = some (.int .i64 t1025) := (bC_ BK1036.out 2).trans rfl
            have hfz99_0 := bF_ BK1036.out 0
            have hfz99_1 := bF_ BK1036.out 1
            have hfz99_2 := bF_ BK1036.out 2
            go_wp2_with (first | (go_at_call 34; (with_reducible refine (date_Workday.calls kj16 t1023 t1024 t1025 false _ A59.out).mono ?_); rintro e w100 ⟨rfl, hb⟩; have n0_ := a0_ (bB_ (g := gb982) (o := .cells #[.int .i64 a1_0, .int .i64 a1_1, .int .i64 a1_2] 23 (0, 0)) (by (with_reducible repeat first | apply bN_ | apply bD_ | apply bA_); exact BK982.out) hb); have n1_ := a0_ (bB_ (g := gb1021) (o := .cells #[.int .i64 t1005, .int .i64 t1006, .int .i64 t1007] 23 (0, 0)) (by (with_reducible repeat first | apply bN_ | apply bD_ | apply bA_); exact BK1021.out) hb); have n2_ := a0_ (bB_ (g := gb1022) (o := .cells #[.int .i64 t1008, .int .i64 t1009, .int .i64 t1010] 23 (0, 0)) (by (with_reducible repeat first | apply bN_ | apply bD_ | apply bA_); exact BK1022.out) hb); have n3_ := a0_ (bB_ (g := gb1036) (o := .cells #[.int .i64 t1023, .int .i64 t1024, .int .i64 t1025] 23 (0, 0)) (by (with_reducible repeat first | apply bN_ | apply bD_ | apply bA_); exact BK1036.out) hb); have n4_ := a0_ (IsS62.below (by repeat (first | (with_reducible first | exact HI993.out | apply sA_ | apply sN_ | apply sD_ | refine sF_ ?_ NB993_982.out _ | refine sF_ ?_ NB993_1021.out _ | refine sF_ ?_ NB993_1022.out _ | refine sF_ ?_ NB993_1036.out _) | exact HI993.out)) hb); have n5_ := a0_ (below_step (by repeat (first | (with_reducible first | exact HB.out | apply lA_ | apply lN_ | apply lD_ | refine lS_ ?_ (sG_ HI993.out) | refine lS_ ?_ GE982.out | refine lS_ ?_ GE1021.out | refine lS_ ?_ GE1022.out | refine lS_ ?_ GE1036.out) | exact HB.out)) hb); clear BK982; clear BK1021; clear BK1022; clear BK1036; clear HI993; clear HB; have BK982 := n0_; have BK1021 := n1_; have BK1022 := n2_; have BK1036 := n3_; have HI993 := n4_; have HB := n5_; clear n0_ n1_ n2_ n3_ n4_ n5_; (try clear hb); (try clear hb2); (try clear hk); (try clear hi)))
            go_meet
            case rel => exact ⟨_, (true), (by first | rfl | (simp; done) | (simp [*]; done)), H', ⟨by have := HK1.out; have := HJ16.out; first | omega | exact Nat.le_refl _⟩, ⟨by (with_reducible repeat first | apply bN_ | apply bD_ | apply bA_); exact BK982.out⟩, ⟨by (with_reducible repeat first | apply bN_ | apply bD_ | apply bA_); exact BK1021.out⟩, ⟨by (with_reducible repeat first | apply bN_ | apply bD_ | apply bA_); exact BK1022.out⟩, ⟨by (with_reducible repeat first | apply bN_ | apply bD_ | apply bA_); exact BK1036.out⟩, ⟨by repeat (first | (with_reducible first | exact HI993.out | apply sA_ | apply sN_ | apply sD_ | refine sF_ ?_ NB993_982.out _ | refine sF_ ?_ NB993_1021.out _ | refine sF_ ?_ NB993_1022.out _ | refine sF_ ?_ NB993_1036.out _) | exact HI993.out)⟩, ⟨by repeat (first | (with_reducible first | exact HB.out | apply lA_ | apply lN_ | apply lD_ | refine lS_ ?_ (sG_ HI993.out) | refine lS_ ?_ GE982.out | refine lS_ ?_ GE1021.out | refine lS_ ?_ GE1022.out | refine lS_ ?_ GE1036.out) | exact HB.out)⟩⟩
          ·rw [if_neg c58] at H
           have c58b0 : ((wrap64 ((wrap64 ((wrap64 (t1026 + t1038)) + t1049)) + t1060)) == 0) = false := beq_eq_false_iff_ne.mpr c58
           have c58b1 : ((wrap64 ((wrap64 ((wrap64 (t1026 + t1038)) + t1049)) + t1060)) != 0) = true := bne_iff_ne.mpr c58
           (first | rw [c58b0] | (simp only [i64_w, i32_w]; rw [c58b0]) | skip)
           have H' := a0_ H
           clear H
           go_wp2
           go_meet
           case rel => exact ⟨_, (true), (by first | rfl | (simp; done) | (simp [*]; done)), H', ⟨by have := HK1.out; have := HJ16.out; first | omega | exact Nat.le_refl _⟩, ⟨by (with_reducible repeat first | apply bN_ | apply bD_ | apply bA_); exact BK982.out⟩, ⟨by (with_reducible repeat first | apply bN_ | apply bD_ | apply bA_); exact BK1021.out⟩, ⟨by (with_reducible repeat first | apply bN_ | apply bD_ | apply bA_); exact BK1022.out⟩, ⟨by (with_reducible repeat first | apply bN_ | apply bD_ | apply bA_); exact BK1036.out⟩, ⟨by repeat (first | (with_reducible first | exact HI993.out | apply sA_ | apply sN_ | apply sD_ | refine sF_ ?_ NB993_982.out _ | refine sF_ ?_ NB993_1021.out _ | refine sF_ ?_ NB993_1022.out _ | refine sF_ ?_ NB993_1036.out _) | exact HI993.out)⟩, ⟨by repeat (first | (with_reducible first | exact HB.out | apply lA_ | apply lN_ | apply lD_ | refine lS_ ?_ (sG_ HI993.out) | refine lS_ ?_ GE982.out | refine lS_ ?_ GE1021.out | refine lS_ ?_ GE1022.out | refine lS_ ?_ GE1036.out) | exact HB.out)⟩⟩
         case rest =>
          clear HC47
          try clear c4
          try clear c5
          try clear c5b0
          try clear c12
          try clear c12b0
          try clear c38
          try clear c38b0
          try clear c38b1
          try clear c39
          try clear c39b0
          try clear c39b1
          try clear c45
          try clear c58
          try clear c58b0
          try clear c58b1
          try clear c60
          try clear c61
          try clear c61b0
          try clear c68
          try clear c68b0
          try clear c75
          try clear c75b0
          try clear c82
          try clear c82b0
          try clear hcz25_0
          try clear hcz25_1
          try clear hcz25_2
          try clear hcz28_0
          try clear hcz28_1
          try clear hcz28_2
          try clear hcz35_0
          try clear hcz35_1
          try clear hcz35_2
          try clear hcz44_0
          try clear hcz44_1
          try clear hcz44_2
          try clear hcz52_0
          try clear hcz52_1
          try clear hcz52_2
          try clear hcz56_0
          try clear hcz56_1
          try clear hcz56_2
          try clear hcz66_0
          try clear hcz66_1
          try clear hcz66_2
          try clear hcz73_0
          try clear hcz73_1
          try clear hcz73_2
          try clear hcz80_0
          try clear hcz80_1
          try clear hcz80_2
          try clear hcz87_0
          try clear hcz87_1
          try clear hcz87_2
          try clear hcz93_0
          try clear hcz93_1
          try clear hcz93_2
          try clear hcz99_0
          try clear hcz99_1
          try clear hcz99_2
          try clear hcz9_0
          try clear hcz9_1
          try clear hcz9_2
          try clear hfz25_0
          try clear hfz25_1
          try clear hfz25_2
          try clear hfz28_0
          try clear hfz28_1
          try clear hfz28_2
          try clear hfz35_0
          try clear hfz35_1
          try clear hfz35_2
          try clear hfz44_0
          try clear hfz44_1
          try clear hfz44_2
          try clear hfz52_0
          try clear hfz52_1
          try clear hfz52_2
          try clear hfz56_0
          try clear hfz56_1
          try clear hfz56_2
          try clear hfz66_0
          try clear hfz66_1
          try clear hfz66_2
          try clear hfz73_0
          try clear hfz73_1
          try clear hfz73_2
          try clear hfz80_0
          try clear hfz80_1
          try clear hfz80_2
          try clear hfz87_0
          try clear hfz87_1
          try clear hfz87_2
          try clear hfz93_0
          try clear hfz93_1
          try clear hfz93_2
          try clear hfz99_0
          try clear hfz99_1
          try clear hfz99_2
          try clear hfz9_0
          try clear hfz9_1
          try clear hfz9_2
          obtain ⟨kq, x124_46, rfl, HA, HJ46, BK982, BK1021, BK1022, BK1036, HI993, HB⟩ := hcut
          cases kq with
          | zero => exact absurd HA.out (by simp [stipendlaw04_PeriodPays.j2])
          | succ kj46 =>
           have H := HA.out
           clear HA
           simp only [stipendlaw04_PeriodPays.j2] at H
           by_cases c101 : x124_46 = true
           ·subst c101
            have H1 : (none) = some r := by rw [if_pos rfl] at H; exact H
            clear H
            have H := H1
            clear H1
            exact absurd H (by simp)
           ·replace c101 := Bool.eq_false_iff.mpr c101
            subst c101
            have H1 : ((stipendref03_Months.f kj46 a1_0 a1_1 a1_2 (wrap64 (3 * (wrap64 (t1037 - 1))))).bind fun bt1062 => ((stipendref03_Months.f kj46 a1_0 a1_1 a1_2 (wrap64 (3 * t1037))).bind fun bt1067 => ((stipendref03_Number.f kj46 bt1062.1 bt1062.2.1 bt1062.2.2.1).bind fun t1072 => ((stipendref03_Number.f kj46 t1008 t1009 t1010).bind fun t1073 => (if t1072 > t1073 then (stipendlaw04_PeriodPays.j3 kj46 x7_1 x9_1 t1037 t1048 true a1_0 a1_1 a1_2 t1050 t1051 t1052 t1053 t1054 t1055 t1056 t1057 t1058) else (if bt1067.2.2.2 = true then (if t1037 < 4 then ((stipendref03_Number.f kj46 bt1067.1 bt1067.2.1 bt1067.2.2.1).bind fun t1074 => ((stipendref03_Number.f kj46 t1008 t1009 t1010).bind fun t1075 => (stipendlaw04_PeriodPays.j3 kj46 x7_1 x9_1 t1037 t1048 (decide (t1074 ≤ t1075)) a1_0 a1_1 a1_2 t1050 t1051 t1052 t1053 t1054 t1055 t1056 t1057 t1058))) else (stipendlaw04_PeriodPays.j3 kj46 x7_1 x9_1 t1037 t1048 false a1_0 a1_1 a1_2 t1050 t1051 t1052 t1053 t1054 t1055 t1056 t1057 t1058)) else (stipendlaw04_PeriodPays.j3 kj46 x7_1 x9_1 t1037 t1048 false a1_0 a1_1 a1_2 t1050 t1051 t1052 t1053 t1054 t1055 t1056 t1057 t1058))))))) = some r := by rw [if_neg (show ¬ (false = true) by decide)] at H; exact H
            clear H
            have H := H1
            clear H1
            replace H := oB_ H
            obtain ⟨⟨t1062, t1063, t1064, t1065⟩, A1020, H⟩ := H
            replace H : ((stipendref03_Months.f kj46 a1_0 a1_1 a1_2 (wrap64 (3 * t1037))).bind fun bt1067 => ((stipendref03_Number.f kj46 t1062 t1063 t1064).bind fun t1072 => ((stipendref03_Number.f kj46 t1008 t1009 t1010).bind fun t1073 => (if t1072 > t1073 then (stipendlaw04_PeriodPays.j3 kj46 x7_1 x9_1 t1037 t1048 true a1_0 a1_1 a1_2 t1050 t1051 t1052 t1053 t1054 t1055 t1056 t1057 t1058) else (if bt1067.2.2.2 = true then (if t1037 < 4 then ((stipendref03_Number.f kj46 bt1067.1 bt1067.2.1 bt1067.2.2.1).bind fun t1074 => ((stipendref03_Number.f kj46 t1008 t1009 t1010).bind fun t1075 => (stipendlaw04_PeriodPays.j3 kj46 x7_1 x9_1 t1037 t1048 (decide (t1074 ≤ t1075)) a1_0 a1_1 a1_2 t1050 t1051 t1052 t1053 t1054 t1055 t1056 t1057 t1058))) else (stipendlaw04_PeriodPays.j3 kj46 x7_1 x9_1 t1037 t1048 false a1_0 a1_1 a1_2 t1050 t1051 t1052 t1053 t1054 t1055 t1056 t1057 t1058)) else (stipendlaw04_PeriodPays.j3 kj46 x7_1 x9_1 t1037 t1048 false a1_0 a1_1 a1_2 t1050 t1051 t1052 t1053 t1054 t1055 t1056 t1057 t1058)))))) = some r := H
            have A102 := a0_ A1020
            clear A1020
            replace H := oB_ H
            obtain ⟨⟨t1067, t1068, t1069, t1070⟩, A1030, H⟩ := H
            replace H : ((stipendref03_Number.f kj46 t1062 t1063 t1064).bind fun t1072 => ((stipendref03_Number.f kj46 t1008 t1009 t1010).bind fun t1073 => (if t1072 > t1073 then (stipendlaw04_PeriodPays.j3 kj46 x7_1 x9_1 t1037 t1048 true a1_0 a1_1 a1_2 t1050 t1051 t1052 t1053 t1054 t1055 t1056 t1057 t1058) else (if t1070 = true then (if t1037 < 4 then ((stipendref03_Number.f kj46 t1067 t1068 t1069).bind fun t1074 => ((stipendref03_Number.f kj46 t1008 t1009 t1010).bind fun t1075 => (stipendlaw04_PeriodPays.j3 kj46 x7_1 x9_1 t1037 t1048 (decide (t1074 ≤ t1075)) a1_0 a1_1 a1_2 t1050 t1051 t1052 t1053 t1054 t1055 t1056 t1057 t1058))) else (stipendlaw04_PeriodPays.j3 kj46 x7_1 x9_1 t1037 t1048 false a1_0 a1_1 a1_2 t1050 t1051 t1052 t1053 t1054 t1055 t1056 t1057 t1058)) else (stipendlaw04_PeriodPays.j3 kj46 x7_1 x9_1 t1037 t1048 false a1_0 a1_1 a1_2 t1050 t1051 t1052 t1053 t1054 t1055 t1056 t1057 t1058))))) = some r := H
            have A103 := a0_ A1030
            clear A1030
            have HC104 := a0_ H
            clear H
            have hnb105 := NB982_1021.out
            have hnc105 := NB1021_982.out
            have hnb106 := NB982_1022.out
            have hnc106 := NB1022_982.out
            have hnb107 := NB982_1036.out
            have hnc107 := NB1036_982.out
            have hnb108 := NB982_993.out
            have hnc108 := NB993_982.out
            have hcz109_0 : wc.cell? ⟨gb982, 0, none⟩ = some (.int .i64 a1_0) := (bC_ BK982.out 0).trans rfl
            have hcz109_1 : wc.cell? ⟨gb982, 1, none⟩ = some (.int .i64 a1_1) := (bC_ BK982.out 1).trans rfl
            have hcz109_2 : wc.cell? ⟨gb982, 2, none⟩ = some (.int .i64 a1_2) := (bC_ BK982.out 2).trans rfl
            have hfz109_0 := bF_ BK982.out 0
            have hfz109_1 := bF_ BK982.out 1
            have hfz109_2 := bF_ BK982.out 2
            go_upto_region 20 with (first | ((with_reducible refine gate_callee (f := 21) rfl ?_); refine goesL_ (some 130) rfl rfl Try.func21 (by kernel_rfl) rfl #[.agg #[.int .i64 a1_0, .int .i64 a1_1, .int .i64 a1_2], .int .i64 (wrap64 (3 * (wrap64 (t1037 - 1))))] rfl (by (try simp only [List.map_toArray, List.map_cons, List.map_nil]); first | done | rfl) ?_; (with_reducible refine (stipendref03_Months.calls kj46 a1_0 a1_1 a1_2 (wrap64 (3 * (wrap64 (t1037 - 1)))) t1062 t1063 t1064 t1065 _ A102.out).mono ?_); rintro e w110 ⟨rfl, hb⟩; refine ⟨_, rfl, ?_⟩; have n0_ := a0_ (bB_ (g := gb982) (o := .cells #[.int .i64 a1_0, .int .i64 a1_1, .int .i64 a1_2] 23 (0, 0)) (by (with_reducible repeat first | apply bN_ | apply bD_ | apply bA_); exact BK982.out) hb); have n1_ := a0_ (bB_ (g := gb1021) (o := .cells #[.int .i64 t1005, .int .i64 t1006, .int .i64 t1007] 23 (0, 0)) (by (with_reducible repeat first | apply bN_ | apply bD_ | apply bA_); exact BK1021.out) hb); have n2_ := a0_ (bB_ (g := gb1022) (o := .cells #[.int .i64 t1008, .int .i64 t1009, .int .i64 t1010] 23 (0, 0)) (by (with_reducible repeat first | apply bN_ | apply bD_ | apply bA_); exact BK1022.out) hb); have n3_ := a0_ (bB_ (g := gb1036) (o := .cells #[.int .i64 t1023, .int .i64 t1024, .int .i64 t1025] 23 (0, 0)) (by (with_reducible repeat first | apply bN_ | apply bD_ | apply bA_); exact BK1036.out) hb); have n4_ := a0_ (IsS62.below (by repeat (first | (with_reducible first | exact HI993.out | apply sA_ | apply sN_ | apply sD_ | refine sF_ ?_ NB993_982.out _ | refine sF_ ?_ NB993_1021.out _ | refine sF_ ?_ NB993_1022.out _ | refine sF_ ?_ NB993_1036.out _) | exact HI993.out)) hb); have n5_ := a0_ (below_step (by repeat (first | (with_reducible first | exact HB.out | apply lA_ | apply lN_ | apply lD_ | refine lS_ ?_ (sG_ HI993.out) | refine lS_ ?_ GE982.out | refine lS_ ?_ GE1021.out | refine lS_ ?_ GE1022.out | refine lS_ ?_ GE1036.out) | exact HB.out)) hb); clear BK982; clear BK1021; clear BK1022; clear BK1036; clear HI993; clear HB; have BK982 := n0_; have BK1021 := n1_; have BK1022 := n2_; have BK1036 := n3_; have HI993 := n4_; have HB := n5_; clear n0_ n1_ n2_ n3_ n4_ n5_; (try clear hb); (try clear hb2); (try clear hk); (try clear hi)) | ((with_reducible refine gate_dst (N := 21) rfl ?_); refine box_event ?hg (N := 21) ?hd (cs := #[.int .i64 0, .int .i64 0, .int .i64 0]) (t := 23) ?hr ?_; (case hd => rfl); (case hg => rfl); (case hr => first | (go_simp; done) | (go_simp; rfl)); intro gb1066 hg w111 hbox hb; have n0_ := a0_ (bB_ (g := gb982) (o := .cells #[.int .i64 a1_0, .int .i64 a1_1, .int .i64 a1_2] 23 (0, 0)) (by (with_reducible repeat first | apply bN_ | apply bD_ | apply bA_); exact BK982.out) hb); have n1_ := a0_ (bB_ (g := gb1021) (o := .cells #[.int .i64 t1005, .int .i64 t1006, .int .i64 t1007] 23 (0, 0)) (by (with_reducible repeat first | apply bN_ | apply bD_ | apply bA_); exact BK1021.out) hb); have n2_ := a0_ (bB_ (g := gb1022) (o := .cells #[.int .i64 t1008, .int .i64 t1009, .int .i64 t1010] 23 (0, 0)) (by (with_reducible repeat first | apply bN_ | apply bD_ | apply bA_); exact BK1022.out) hb); have n3_ := a0_ (bB_ (g := gb1036) (o := .cells #[.int .i64 t1023, .int .i64 t1024, .int .i64 t1025] 23 (0, 0)) (by (with_reducible repeat first | apply bN_ | apply bD_ | apply bA_); exact BK1036.out) hb); have n4_ := a0_ (IsS62.below (by repeat (first | (with_reducible first | exact HI993.out | apply sA_ | apply sN_ | apply sD_ | refine sF_ ?_ NB993_982.out _ | refine sF_ ?_ NB993_1021.out _ | refine sF_ ?_ NB993_1022.out _ | refine sF_ ?_ NB993_1036.out _) | exact HI993.out)) hb); have n5_ := a0_ (below_step (by repeat (first | (with_reducible first | exact HB.out | apply lA_ | apply lN_ | apply lD_ | refine lS_ ?_ (sG_ HI993.out) | refine lS_ ?_ GE982.out | refine lS_ ?_ GE1021.out | refine lS_ ?_ GE1022.out | refine lS_ ?_ GE1036.out) | exact HB.out)) hb); have n6_ := a0_ (hbox); have n7_ := a0_ ((by rw [hg]; exact (below_size (by repeat (first | (with_reducible first | exact HB.out | apply lA_ | apply lN_ | apply lD_ | refine lS_ ?_ (sG_ HI993.out) | refine lS_ ?_ GE982.out | refine lS_ ?_ GE1021.out | refine lS_ ?_ GE1022.out | refine lS_ ?_ GE1036.out) | exact HB.out))) : w.heap.size ≤ gb1066)); have n8_ := a0_ ((by rw [hg]; exact (below_size (by repeat (first | (with_reducible first | exact HB.out | apply lA_ | apply lN_ | apply lD_ | refine lS_ ?_ (sG_ HI993.out) | refine lS_ ?_ GE982.out | refine lS_ ?_ GE1021.out | refine lS_ ?_ GE1022.out | refine lS_ ?_ GE1036.out) | exact HB.out))) : w.heap.size ≤ gb1066)); have n9_ := a0_ ((by rw [hg]; exact Nat.ne_of_lt (blk_lt (g := gb982) (o := .cells #[.int .i64 a1_0, .int .i64 a1_1, .int .i64 a1_2] 23 (0, 0)) (by (with_reducible repeat first | apply bN_ | apply bD_ | apply bA_); exact BK982.out)) : gb982 ≠ gb1066)); have n10_ := a0_ ((by rw [hg]; exact Nat.ne_of_gt (blk_lt (g := gb982) (o := .cells #[.int .i64 a1_0, .int .i64 a1_1, .int .i64 a1_2] 23 (0, 0)) (by (with_reducible repeat first | apply bN_ | apply bD_ | apply bA_); exact BK982.out)) : gb1066 ≠ gb982)); have n11_ := a0_ ((by rw [hg]; exact Nat.ne_of_lt (blk_lt (g := gb1021) (o := .cells #[.int .i64 t1005, .int .i64 t1006, .int .i64 t1007] 23 (0, 0)) (by (with_reducible repeat first | apply bN_ | apply bD_ | apply bA_); exact BK1021.out)) : gb1021 ≠ gb1066)); have n12_ := a0_ ((by rw [hg]; exact Nat.ne_of_gt (blk_lt (g := gb1021) (o := .cells #[.int .i64 t1005, .int .i64 t1006, .int .i64 t1007] 23 (0, 0)) (by (with_reducible repeat first | apply bN_ | apply bD_ | apply bA_); exact BK1021.out)) : gb1066 ≠ gb1021)); have n13_ := a0_ ((by rw [hg]; exact Nat.ne_of_lt (blk_lt (g := gb1022) (o := .cells #[.int .i64 t1008, .int .i64 t1009, .int .i64 t1010] 23 (0, 0)) (by (with_reducible repeat first | apply bN_ | apply bD_ | apply bA_); exact BK1022.out)) : gb1022 ≠ gb1066)); have n14_ := a0_ ((by rw [hg]; exact Nat.ne_of_gt (blk_lt (g := gb1022) (o := .cells #[.int .i64 t1008, .int .i64 t1009, .int .i64 t1010] 23 (0, 0)) (by (with_reducible repeat first | apply bN_ | apply bD_ | apply bA_); exact BK1022.out)) : gb1066 ≠ gb1022)); have n15_ := a0_ ((by rw [hg]; exact Nat.ne_of_lt (blk_lt (g := gb1036) (o := .cells #[.int .i64 t1023, .int .i64 t1024, .int .i64 t1025] 23 (0, 0)) (by (with_reducible repeat first | apply bN_ | apply bD_ | apply bA_); exact BK1036.out)) : gb1036 ≠ gb1066)); have n16_ := a0_ ((by rw [hg]; exact Nat.ne_of_gt (blk_lt (g := gb1036) (o := .cells #[.int .i64 t1023, .int .i64 t1024, .int .i64 t1025] 23 (0, 0)) (by (with_reducible repeat first | apply bN_ | apply bD_ | apply bA_); exact BK1036.out)) : gb1066 ≠ gb1036)); have n17_ := a0_ ((by rw [hg]; exact Nat.ne_of_lt (IsS62.lt (show IsS62 w _ g993 t1050 t1051 t1052 t1053 t1054 t1055 t1056 t1057 t1058 from by repeat (first | (with_reducible first | exact HI993.out | apply sA_ | apply sN_ | apply sD_ | refine sF_ ?_ NB993_982.out _ | refine sF_ ?_ NB993_1021.out _ | refine sF_ ?_ NB993_1022.out _ | refine sF_ ?_ NB993_1036.out _) | exact HI993.out))) : g993 ≠ gb1066)); have n18_ := a0_ ((by rw [hg]; exact Nat.ne_of_gt (IsS62.lt (show IsS62 w _ g993 t1050 t1051 t1052 t1053 t1054 t1055 t1056 t1057 t1058 from by repeat (first | (with_reducible first | exact HI993.out | apply sA_ | apply sN_ | apply sD_ | refine sF_ ?_ NB993_982.out _ | refine sF_ ?_ NB993_1021.out _ | refine sF_ ?_ NB993_1022.out _ | refine sF_ ?_ NB993_1036.out _) | exact HI993.out))) : gb1066 ≠ g993)); clear BK982; clear BK1021; clear BK1022; clear BK1036; clear HI993; clear HB; have BK982 := n0_; have BK1021 := n1_; have BK1022 := n2_; have BK1036 := n3_; have HI993 := n4_; have HB := n5_; have BK1066 := n6_; have GW1066 := n7_; have GE1066 := n8_; have NB982_1066 := n9_; have NB1066_982 := n10_; have NB1021_1066 := n11_; have NB1066_1021 := n12_; have NB1022_1066 := n13_; have NB1066_1022 := n14_; have NB1036_1066 := n15_; have NB1066_1036 := n16_; have NB993_1066 := n17_; have NB1066_993 := n18_; clear n0_ n1_ n2_ n3_ n4_ n5_ n6_ n7_ n8_ n9_ n10_ n11_ n12_ n13_ n14_ n15_ n16_ n17_ n18_; clear hb hbox hg; have hnb112 := NB1066_982.out; have hnc112 := NB982_1066.out; have hnb113 := NB1066_1021.out; have hnc113 := NB1021_1066.out; have hnb114 := NB1066_1022.out; have hnc114 := NB1022_1066.out; have hnb115 := NB1066_1036.out; have hnc115 := NB1036_1066.out; have hnb116 := NB1066_993.out; have hnc116 := NB993_1066.out; have hcz117_0 : w111.cell? ⟨gb1066, 0, none⟩ = some (.int .i64 0) := (bC_ BK1066.out 0).trans rfl; have hcz117_1 : w111.cell? ⟨gb1066, 1, none⟩ = some (.int .i64 0) := (bC_ BK1066.out 1).trans rfl; have hcz117_2 : w111.cell? ⟨gb1066, 2, none⟩ = some (.int .i64 0) := (bC_ BK1066.out 2).trans rfl; have hfz117_0 := bF_ BK1066.out 0; have hfz117_1 := bF_ BK1066.out 1; have hfz117_2 := bF_ BK1066.out 2; have hcz118_0 : w111.cell? ⟨gb982, 0, none⟩ = some (.int .i64 a1_0) := (bC_ BK982.out 0).trans rfl; have hcz118_1 : w111.cell? ⟨gb982, 1, none⟩ = some (.int .i64 a1_1) := (bC_ BK982.out 1).trans rfl; have hcz118_2 : w111.cell? ⟨gb982, 2, none⟩ = some (.int .i64 a1_2) := (bC_ BK982.out 2).trans rfl; have hfz118_0 := bF_ BK982.out 0; have hfz118_1 := bF_ BK982.out 1; have hfz118_2 := bF_ BK982.out 2) | ((with_reducible refine gate_callee (f := 21) rfl ?_); refine goesL_ (some 137) rfl rfl Try.func21 (by kernel_rfl) rfl #[.agg #[.int .i64 a1_0, .int .i64 a1_1, .int .i64 a1_2], .int .i64 (wrap64 (3 * t1037))] rfl (by (try simp only [List.map_toArray, List.map_cons, List.map_nil]); first | done | rfl) ?_; (with_reducible refine (stipendref03_Months.calls kj46 a1_0 a1_1 a1_2 (wrap64 (3 * t1037)) t1067 t1068 t1069 t1070 _ A103.out).mono ?_); rintro e w119 ⟨rfl, hb⟩; refine ⟨_, rfl, ?_⟩; have n0_ := a0_ (bB_ (g := gb982) (o := .cells #[.int .i64 a1_0, .int .i64 a1_1, .int .i64 a1_2] 23 (0, 0)) (by (with_reducible repeat first | apply bN_ | apply bD_ | apply bA_); refine blk_far ?_ NB982_1066.out _; (with_reducible repeat first | apply bN_ | apply bD_ | apply bA_); refine blk_far ?_ NB982_1066.out _; (with_reducible repeat first | apply bN_ | apply bD_ | apply bA_); refine blk_far ?_ NB982_1066.out _; (with_reducible repeat first | apply bN_ | apply bD_ | apply bA_); exact BK982.out) hb); have n1_ := a0_ (bB_ (g := gb1021) (o := .cells #[.int .i64 t1005, .int .i64 t1006, .int .i64 t1007] 23 (0, 0)) (by (with_reducible repeat first | apply bN_ | apply bD_ | apply bA_); refine blk_far ?_ NB1021_1066.out _; (with_reducible repeat first | apply bN_ | apply bD_ | apply bA_); refine blk_far ?_ NB1021_1066.out _; (with_reducible repeat first | apply bN_ | apply bD_ | apply bA_); refine blk_far ?_ NB1021_1066.out _; (with_reducible repeat first | apply bN_ | apply bD_ | apply bA_); exact BK1021.out) hb); have n2_ := a0_ (bB_ (g := gb1022) (o := .cells #[.int .i64 t1008, .int .i64 t1009, .int .i64 t1010] 23 (0, 0)) (by (with_reducible repeat first | apply bN_ | apply bD_ | apply bA_); refine blk_far ?_ NB1022_1066.out _; (with_reducible repeat first | apply bN_ | apply bD_ | apply bA_); refine blk_far ?_ NB1022_1066.out _; (with_reducible repeat first | apply bN_ | apply bD_ | apply bA_); refine blk_far ?_ NB1022_1066.out _; (with_reducible repeat first | apply bN_ | apply bD_ | apply bA_); exact BK1022.out) hb); have n3_ := a0_ (bB_ (g := gb1036) (o := .cells #[.int .i64 t1023, .int .i64 t1024, .int .i64 t1025] 23 (0, 0)) (by (with_reducible repeat first | apply bN_ | apply bD_ | apply bA_); refine blk_far ?_ NB1036_1066.out _; (with_reducible repeat first | apply bN_ | apply bD_ | apply bA_); refine blk_far ?_ NB1036_1066.out _; (with_reducible repeat first | apply bN_ | apply bD_ | apply bA_); refine blk_far ?_ NB1036_1066.out _; (with_reducible repeat first | apply bN_ | apply bD_ | apply bA_); exact BK1036.out) hb); have n4_ := a0_ (IsS62.below (show IsS62 w (((w111.setCell ⟨gb1066, 0, none⟩ (.int .i64 t1062)).setCell ⟨gb1066, 1, none⟩ (.int .i64 t1063)).setCell ⟨gb1066, 2, none⟩ (.int .i64 t1064)) g993 t1050 t1051 t1052 t1053 t1054 t1055 t1056 t1057 t1058 from by repeat (first | (with_reducible first | exact HI993.out | apply sA_ | apply sN_ | apply sD_ | refine sF_ ?_ NB993_982.out _ | refine sF_ ?_ NB993_1021.out _ | refine sF_ ?_ NB993_1022.out _ | refine sF_ ?_ NB993_1036.out _ | refine sF_ ?_ NB993_1066.out _) | exact HI993.out)) hb); have n5_ := a0_ (bB_ (g := gb1066) (o := .cells #[.int .i64 t1062, .int .i64 t1063, .int .i64 t1064] 23 (0, 0)) (by (with_reducible repeat first | apply bN_ | apply bD_ | apply bA_); refine blk_put (cs := #[.int .i64 t1062, .int .i64 t1063, .int .i64 0]) ?_ 2 _ rfl; (with_reducible repeat first | apply bN_ | apply bD_ | apply bA_); refine blk_put (cs := #[.int .i64 t1062, .int .i64 0, .int .i64 0]) ?_ 1 _ rfl; (with_reducible repeat first | apply bN_ | apply bD_ | apply bA_); refine blk_put (cs := #[.int .i64 0, .int .i64 0, .int .i64 0]) ?_ 0 _ rfl; (with_reducible repeat first | apply bN_ | apply bD_ | apply bA_); exact BK1066.out) hb); have n6_ := a0_ (below_step (by repeat (first | (with_reducible first | exact HB.out | apply lA_ | apply lN_ | apply lD_ | refine lS_ ?_ (sG_ HI993.out) | refine lS_ ?_ GE982.out | refine lS_ ?_ GE1021.out | refine lS_ ?_ GE1022.out | refine lS_ ?_ GE1036.out | refine lS_ ?_ GE1066.out) | exact HB.out)) hb); clear BK982; clear BK1021; clear BK1022; clear BK1036; clear HI993; clear BK1066; clear HB; have BK982 := n0_; have BK1021 := n1_; have BK1022 := n2_; have BK1036 := n3_; have HI993 := n4_; have BK1066 := n5_; have HB := n6_; clear n0_ n1_ n2_ n3_ n4_ n5_ n6_; (try clear hb); (try clear hb2); (try clear hk); (try clear hi)) | ((with_reducible refine gate_dst (N := 23) rfl ?_); refine box_event ?hg (N := 23) ?hd (cs := #[.int .i64 0, .int .i64 0, .int .i64 0]) (t := 23) ?hr ?_; (case hd => rfl); (case hg => rfl); (case hr => first | (go_simp; done) | (go_simp; rfl)); intro gb1071 hg w120 hbox hb; have n0_ := a0_ (bB_ (g := gb982) (o := .cells #[.int .i64 a1_0, .int .i64 a1_1, .int .i64 a1_2] 23 (0, 0)) (by (with_reducible repeat first | apply bN_ | apply bD_ | apply bA_); exact BK982.out) hb); have n1_ := a0_ (bB_ (g := gb1021) (o := .cells #[.int .i64 t1005, .int .i64 t1006, .int .i64 t1007] 23 (0, 0)) (by (with_reducible repeat first | apply bN_ | apply bD_ | apply bA_); exact BK1021.out) hb); have n2_ := a0_ (bB_ (g := gb1022) (o := .cells #[.int .i64 t1008, .int .i64 t1009, .int .i64 t1010] 23 (0, 0)) (by (with_reducible repeat first | apply bN_ | apply bD_ | apply bA_); exact BK1022.out) hb); have n3_ := a0_ (bB_ (g := gb1036) (o := .cells #[.int .i64 t1023, .int .i64 t1024, .int .i64 t1025] 23 (0, 0)) (by (with_reducible repeat first | apply bN_ | apply bD_ | apply bA_); exact BK1036.out) hb); have n4_ := a0_ (IsS62.below (by repeat (first | (with_reducible first | exact HI993.out | apply sA_ | apply sN_ | apply sD_ | refine sF_ ?_ NB993_982.out _ | refine sF_ ?_ NB993_1021.out _ | refine sF_ ?_ NB993_1022.out _ | refine sF_ ?_ NB993_1036.out _ | refine sF_ ?_ NB993_1066.out _) | exact HI993.out)) hb); have n5_ := a0_ (bB_ (g := gb1066) (o := .cells #[.int .i64 t1062, .int .i64 t1063, .int .i64 t1064] 23 (0, 0)) (by (with_reducible repeat first | apply bN_ | apply bD_ | apply bA_); exact BK1066.out) hb); have n6_ := a0_ (below_step (by repeat (first | (with_reducible first | exact HB.out | apply lA_ | apply lN_ | apply lD_ | refine lS_ ?_ (sG_ HI993.out) | refine lS_ ?_ GE982.out | refine lS_ ?_ GE1021.out | refine lS_ ?_ GE1022.out | refine lS_ ?_ GE1036.out | refine lS_ ?_ GE1066.out) | exact HB.out)) hb); have n7_ := a0_ (hbox); have n8_ := a0_ ((by rw [hg]; exact (below_size (by repeat (first | (with_reducible first | exact HB.out | apply lA_ | apply lN_ | apply lD_ | refine lS_ ?_ (sG_ HI993.out) | refine lS_ ?_ GE982.out | refine lS_ ?_ GE1021.out | refine lS_ ?_ GE1022.out | refine lS_ ?_ GE1036.out | refine lS_ ?_ GE1066.out) | exact HB.out))) : w.heap.size ≤ gb1071)); have n9_ := a0_ ((by rw [hg]; exact (below_size (by repeat (first | (with_reducible first | exact HB.out | apply lA_ | apply lN_ | apply lD_ | refine lS_ ?_ (sG_ HI993.out) | refine lS_ ?_ GE982.out | refine lS_ ?_ GE1021.out | refine lS_ ?_ GE1022.out | refine lS_ ?_ GE1036.out | refine lS_ ?_ GE1066.out) | exact HB.out))) : w.heap.size ≤ gb1071)); have n10_ := a0_ ((by rw [hg]; exact Nat.ne_of_lt (blk_lt (g := gb982) (o := .cells #[.int .i64 a1_0, .int .i64 a1_1, .int .i64 a1_2] 23 (0, 0)) (by (with_reducible repeat first | apply bN_ | apply bD_ | apply bA_); exact BK982.out)) : gb982 ≠ gb1071)); have n11_ := a0_ ((by rw [hg]; exact Nat.ne_of_gt (blk_lt (g := gb982) (o := .cells #[.int .i64 a1_0, .int .i64 a1_1, .int .i64 a1_2] 23 (0, 0)) (by (with_reducible repeat first | apply bN_ | apply bD_ | apply bA_); exact BK982.out)) : gb1071 ≠ gb982)); have n12_ := a0_ ((by rw [hg]; exact Nat.ne_of_lt (blk_lt (g := gb1021) (o := .cells #[.int .i64 t1005, .int .i64 t1006, .int .i64 t1007] 23 (0, 0)) (by (with_reducible repeat first | apply bN_ | apply bD_ | apply bA_); exact BK1021.out)) : gb1021 ≠ gb1071)); have n13_ := a0_ ((by rw [hg]; exact Nat.ne_of_gt (blk_lt (g := gb1021) (o := .cells #[.int .i64 t1005, .int .i64 t1006, .int .i64 t1007] 23 (0, 0)) (by (with_reducible repeat first | apply bN_ | apply bD_ | apply bA_); exact BK1021.out)) : gb1071 ≠ gb1021)); have n14_ := a0_ ((by rw [hg]; exact Nat.ne_of_lt (blk_lt (g := gb1022) (o := .cells #[.int .i64 t1008, .int .i64 t1009, .int .i64 t1010] 23 (0, 0)) (by (with_reducible repeat first | apply bN_ | apply bD_ | apply bA_); exact BK1022.out)) : gb1022 ≠ gb1071)); have n15_ := a0_ ((by rw [hg]; exact Nat.ne_of_gt (blk_lt (g := gb1022) (o := .cells #[.int .i64 t1008, .int .i64 t1009, .int .i64 t1010] 23 (0, 0)) (by (with_reducible repeat first | apply bN_ | apply bD_ | apply bA_); exact BK1022.out)) : gb1071 ≠ gb1022)); have n16_ := a0_ ((by rw [hg]; exact Nat.ne_of_lt (blk_lt (g := gb1036) (o := .cells #[.int .i64 t1023, .int .i64 t1024, .int .i64 t1025] 23 (0, 0)) (by (with_reducible repeat first | apply bN_ | apply bD_ | apply bA_); exact BK1036.out)) : gb1036 ≠ gb1071)); have n17_ := a0_ ((by rw [hg]; exact Nat.ne_of_gt (blk_lt (g := gb1036) (o := .cells #[.int .i64 t1023, .int .i64 t1024, .int .i64 t1025] 23 (0, 0)) (by (with_reducible repeat first | apply bN_ | apply bD_ | apply bA_); exact BK1036.out)) : gb1071 ≠ gb1036)); have n18_ := a0_ ((by rw [hg]; exact Nat.ne_of_lt (blk_lt (g := gb1066) (o := .cells #[.int .i64 t1062, .int .i64 t1063, .int .i64 t1064] 23 (0, 0)) (by (with_reducible repeat first | apply bN_ | apply bD_ | apply bA_); exact BK1066.out)) : gb1066 ≠ gb1071)); have n19_ := a0_ ((by rw [hg]; exact Nat.ne_of_gt (blk_lt (g := gb1066) (o := .cells #[.int .i64 t1062, .int .i64 t1063, .int .i64 t1064] 23 (0, 0)) (by (with_reducible repeat first | apply bN_ | apply bD_ | apply bA_); exact BK1066.out)) : gb1071 ≠ gb1066)); have n20_ := a0_ ((by rw [hg]; exact Nat.ne_of_lt (IsS62.lt (show IsS62 w _ g993 t1050 t1051 t1052 t1053 t1054 t1055 t1056 t1057 t1058 from by repeat (first | (with_reducible first | exact HI993.out | apply sA_ | apply sN_ | apply sD_ | refine sF_ ?_ NB993_982.out _ | refine sF_ ?_ NB993_1021.out _ | refine sF_ ?_ NB993_1022.out _ | refine sF_ ?_ NB993_1036.out _ | refine sF_ ?_ NB993_1066.out _) | exact HI993.out))) : g993 ≠ gb1071)); have n21_ := a0_ ((by rw [hg]; exact Nat.ne_of_gt (IsS62.lt (show IsS62 w _ g993 t1050 t1051 t1052 t1053 t1054 t1055 t1056 t1057 t1058 from by repeat (first | (with_reducible first | exact HI993.out | apply sA_ | apply sN_ | apply sD_ | refine sF_ ?_ NB993_982.out _ | refine sF_ ?_ NB993_1021.out _ | refine sF_ ?_ NB993_1022.out _ | refine sF_ ?_ NB993_1036.out _ | refine sF_ ?_ NB993_1066.out _) | exact HI993.out))) : gb1071 ≠ g993)); clear BK982; clear BK1021; clear BK1022; clear BK1036; clear HI993; clear BK1066; clear HB; have BK982 := n0_; have BK1021 := n1_; have BK1022 := n2_; have BK1036 := n3_; have HI993 := n4_; have BK1066 := n5_; have HB := n6_; have BK1071 := n7_; have GW1071 := n8_; have GE1071 := n9_; have NB982_1071 := n10_; have NB1071_982 := n11_; have NB1021_1071 := n12_; have NB1071_1021 := n13_; have NB1022_1071 := n14_; have NB1071_1022 := n15_; have NB1036_1071 := n16_; have NB1071_1036 := n17_; have NB1066_1071 := n18_; have NB1071_1066 := n19_; have NB993_1071 := n20_; have NB1071_993 := n21_; clear n0_ n1_ n2_ n3_ n4_ n5_ n6_ n7_ n8_ n9_ n10_ n11_ n12_ n13_ n14_ n15_ n16_ n17_ n18_ n19_ n20_ n21_; clear hb hbox hg; have hnb121 := NB1071_982.out; have hnc121 := NB982_1071.out; have hnb122 := NB1071_1021.out; have hnc122 := NB1021_1071.out; have hnb123 := NB1071_1022.out; have hnc123 := NB1022_1071.out; have hnb124 := NB1071_1036.out; have hnc124 := NB1036_1071.out; have hnb125 := NB1071_1066.out; have hnc125 := NB1066_1071.out; have hnb126 := NB1071_993.out; have hnc126 := NB993_1071.out; have hcz127_0 : w120.cell? ⟨gb1071, 0, none⟩ = some (.int .i64 0) := (bC_ BK1071.out 0).trans rfl; have hcz127_1 : w120.cell? ⟨gb1071, 1, none⟩ = some (.int .i64 0) := (bC_ BK1071.out 1).trans rfl; have hcz127_2 : w120.cell? ⟨gb1071, 2, none⟩ = some (.int .i64 0) := (bC_ BK1071.out 2).trans rfl; have hfz127_0 := bF_ BK1071.out 0; have hfz127_1 := bF_ BK1071.out 1; have hfz127_2 := bF_ BK1071.out 2))
            (try simp only [Act.put, zA_, zB_, zC_])
            go_cut [158] (fun v158 wc => ∃ (kq : Nat) (x158_103 : Bool), v158 = .bool x158_103 ∧ Aside0 (stipendlaw04_PeriodPays.j3 kq x7_1 x9_1 t1037 t1048 x158_103 a1_0 a1_1 a1_2 t1050 t1051 t1052 t1053 t1054 t1055 t1056 t1057 t1058 = some r) ∧ Aside0 (kq ≤ kj46) ∧ Aside0 (wc.heap[gb982]? = some (.cells #[.int .i64 a1_0, .int .i64 a1_1, .int .i64 a1_2] 23 (0, 0))) ∧ Aside0 (wc.heap[gb1021]? = some (.cells #[.int .i64 t1005, .int .i64 t1006, .int .i64 t1007] 23 (0, 0))) ∧ Aside0 (wc.heap[gb1022]? = some (.cells #[.int .i64 t1008, .int .i64 t1009, .int .i64 t1010] 23 (0, 0))) ∧ Aside0 (wc.heap[gb1036]? = some (.cells #[.int .i64 t1023, .int .i64 t1024, .int .i64 t1025] 23 (0, 0))) ∧ Aside0 (wc.heap[gb1066]? = some (.cells #[.int .i64 t1062, .int .i64 t1063, .int .i64 t1064] 23 (0, 0))) ∧ Aside0 (wc.heap[gb1071]? = some (.cells #[.int .i64 t1067, .int .i64 t1068, .int .i64 t1069] 23 (0, 0))) ∧ Aside0 (IsS62 w wc g993 t1050 t1051 t1052 t1053 t1054 t1055 t1056 t1057 t1058) ∧ Aside0 (Below w.heap.size w wc))
            case first =>
             have H := HC104.out
             clear HC104
             replace H := oB_ H
             obtain ⟨t1072, A1280, H⟩ := H
             replace H : ((stipendref03_Number.f kj46 t1008 t1009 t1010).bind fun t1073 => (if t1072 > t1073 then (stipendlaw04_PeriodPays.j3 kj46 x7_1 x9_1 t1037 t1048 true a1_0 a1_1 a1_2 t1050 t1051 t1052 t1053 t1054 t1055 t1056 t1057 t1058) else (if t1070 = true then (if t1037 < 4 then ((stipendref03_Number.f kj46 t1067 t1068 t1069).bind fun t1074 => ((stipendref03_Number.f kj46 t1008 t1009 t1010).bind fun t1075 => (stipendlaw04_PeriodPays.j3 kj46 x7_1 x9_1 t1037 t1048 (decide (t1074 ≤ t1075)) a1_0 a1_1 a1_2 t1050 t1051 t1052 t1053 t1054 t1055 t1056 t1057 t1058))) else (stipendlaw04_PeriodPays.j3 kj46 x7_1 x9_1 t1037 t1048 false a1_0 a1_1 a1_2 t1050 t1051 t1052 t1053 t1054 t1055 t1056 t1057 t1058)) else (stipendlaw04_PeriodPays.j3 kj46 x7_1 x9_1 t1037 t1048 false a1_0 a1_1 a1_2 t1050 t1051 t1052 t1053 t1054 t1055 t1056 t1057 t1058)))) = some r := H
             have A128 := a0_ A1280
             clear A1280
             replace H := oB_ H
             obtain ⟨t1073, A1290, H⟩ := H
             replace H : (if t1072 > t1073 then (stipendlaw04_PeriodPays.j3 kj46 x7_1 x9_1 t1037 t1048 true a1_0 a1_1 a1_2 t1050 t1051 t1052 t1053 t1054 t1055 t1056 t1057 t1058) else (if t1070 = true then (if t1037 < 4 then ((stipendref03_Number.f kj46 t1067 t1068 t1069).bind fun t1074 => ((stipendref03_Number.f kj46 t1008 t1009 t1010).bind fun t1075 => (stipendlaw04_PeriodPays.j3 kj46 x7_1 x9_1 t1037 t1048 (decide (t1074 ≤ t1075)) a1_0 a1_1 a1_2 t1050 t1051 t1052 t1053 t1054 t1055 t1056 t1057 t1058))) else (stipendlaw04_PeriodPays.j3 kj46 x7_1 x9_1 t1037 t1048 false a1_0 a1_1 a1_2 t1050 t1051 t1052 t1053 t1054 t1055 t1056 t1057 t1058)) else (stipendlaw04_PeriodPays.j3 kj46 x7_1 x9_1 t1037 t1048 false a1_0 a1_1 a1_2 t1050 t1051 t1052 t1053 t1054 t1055 t1056 t1057 t1058))) = some r := H
             have A129 := a0_ A1290
             clear A1290
             by_cases c130 : t1072 > t1073
             ·rw [if_pos c130] at H
              have c130b0 : decide (t1073 < t1072) = true := decide_eq_true c130
              clear c130
              (first | rw [c130b0] | (simp only [i64_w, i32_w]; rw [c130b0]) | skip)
              have H' := a0_ H
              clear H
              try go_wp2
              have n0_ : Aside0 ((((w120.setCell ⟨gb1071, 0, none⟩ (.int .i64 t1067)).setCell ⟨gb1071, 1, none⟩ (.int .i64 t1068)).setCell ⟨gb1071, 2, none⟩ (.int .i64 t1069)).heap[gb982]? = some (.cells #[.int .i64 a1_0, .int .i64 a1_1, .int .i64 a1_2] 23 (0, 0))) := ⟨by (with_reducible repeat first | apply bN_ | apply bD_ | apply bA_); refine blk_far ?_ NB982_1071.out _; (with_reducible repeat first | apply bN_ | apply bD_ | apply bA_); refine blk_far ?_ NB982_1071.out _; (with_reducible repeat first | apply bN_ | apply bD_ | apply bA_); refine blk_far ?_ NB982_1071.out _; (with_reducible repeat first | apply bN_ | apply bD_ | apply bA_); exact BK982.out⟩
              have n1_ : Aside0 ((((w120.setCell ⟨gb1071, 0, none⟩ (.int .i64 t1067)).setCell ⟨gb1071, 1, none⟩ (.int .i64 t1068)).setCell ⟨gb1071, 2, none⟩ (.int .i64 t1069)).heap[gb1021]? = some (.cells #[.int .i64 t1005, .int .i64 t1006, .int .i64 t1007] 23 (0, 0))) := ⟨by (with_reducible repeat first | apply bN_ | apply bD_ | apply bA_); refine blk_far ?_ NB1021_1071.out _; (with_reducible repeat first | apply bN_ | apply bD_ | apply bA_); refine blk_far ?_ NB1021_1071.out _; (with_reducible repeat first | apply bN_ | apply bD_ | apply bA_); refine blk_far ?_ NB1021_1071.out _; (with_reducible repeat first | apply bN_ | apply bD_ | apply bA_); exact BK1021.out⟩
              have n2_ : Aside0 ((((w120.setCell ⟨gb1071, 0, none⟩ (.int .i64 t1067)).setCell ⟨gb1071, 1, none⟩ (.int .i64 t1068)).setCell ⟨gb1071, 2, none⟩ (.int .i64 t1069)).heap[gb1022]? = some (.cells #[.int .i64 t1008, .int .i64 t1009, .int .i64 t1010] 23 (0, 0))) := ⟨by (with_reducible repeat first | apply bN_ | apply bD_ | apply bA_); refine blk_far ?_ NB1022_1071.out _; (with_reducible repeat first | apply bN_ | apply bD_ | apply bA_); refine blk_far ?_ NB1022_1071.out _; (with_reducible repeat first | apply bN_ | apply bD_ | apply bA_); refine blk_far ?_ NB1022_1071.out _; (with_reducible repeat first | apply bN_ | apply bD_ | apply bA_); exact BK1022.out⟩
              have n3_ : Aside0 ((((w120.setCell ⟨gb1071, 0, none⟩ (.int .i64 t1067)).setCell ⟨gb1071, 1, none⟩ (.int .i64 t1068)).setCell ⟨gb1071, 2, none⟩ (.int .i64 t1069)).heap[gb1036]? = some (.cells #[.int .i64 t1023, .int .i64 t1024, .int .i64 t1025] 23 (0, 0))) := ⟨by (with_reducible repeat first | apply bN_ | apply bD_ | apply bA_); refine blk_far ?_ NB1036_1071.out _; (with_reducible repeat first | apply bN_ | apply bD_ | apply bA_); refine blk_far ?_ NB1036_1071.out _; (with_reducible repeat first | apply bN_ | apply bD_ | apply bA_); refine blk_far ?_ NB1036_1071.out _; (with_reducible repeat first | apply bN_ | apply bD_ | apply bA_); exact BK1036.out⟩
              have n4_ : Aside0 ((((w120.setCell ⟨gb1071, 0, none⟩ (.int .i64 t1067)).setCell ⟨gb1071, 1, none⟩ (.int .i64 t1068)).setCell ⟨gb1071, 2, none⟩ (.int .i64 t1069)).heap[gb1066]? = some (.cells #[.int .i64 t1062, .int .i64 t1063, .int .i64 t1064] 23 (0, 0))) := ⟨by (with_reducible repeat first | apply bN_ | apply bD_ | apply bA_); refine blk_far ?_ NB1066_1071.out _; (with_reducible repeat first | apply bN_ | apply bD_ | apply bA_); refine blk_far ?_ NB1066_1071.out _; (with_reducible repeat first | apply bN_ | apply bD_ | apply bA_); refine blk_far ?_ NB1066_1071.out _; (with_reducible repeat first | apply bN_ | apply bD_ | apply bA_); exact BK1066.out⟩
              have n5_ : Aside0 ((((w120.setCell ⟨gb1071, 0, none⟩ (.int .i64 t1067)).setCell ⟨gb1071, 1, none⟩ (.int .i64 t1068)).setCell ⟨gb1071, 2, none⟩ (.int .i64 t1069)).heap[gb1071]? = some (.cells #[.int .i64 t1067, .int .i64 t1068, .int .i64 t1069] 23 (0, 0))) := ⟨by (with_reducible repeat first | apply bN_ | apply bD_ | apply bA_); refine blk_put (cs := #[.int .i64 t1067, .int .i64 t1068, .int .i64 0]) ?_ 2 _ rfl; (with_reducible repeat first | apply bN_ | apply bD_ | apply bA_); refine blk_put (cs := #[.int .i64 t1067, .int .i64 0, .int .i64 0]) ?_ 1 _ rfl; (with_reducible repeat first | apply bN_ | apply bD_ | apply bA_); refine blk_put (cs := #[.int .i64 0, .int .i64 0, .int .i64 0]) ?_ 0 _ rfl; (with_reducible repeat first | apply bN_ | apply bD_ | apply bA_); exact BK1071.out⟩
              have n6_ : Aside0 (IsS62 w (((w120.setCell ⟨gb1071, 0, none⟩ (.int .i64 t1067)).setCell ⟨gb1071, 1, none⟩ (.int .i64 t1068)).setCell ⟨gb1071, 2, none⟩ (.int .i64 t1069)) g993 t1050 t1051 t1052 t1053 t1054 t1055 t1056 t1057 t1058) := ⟨by repeat (first | (with_reducible first | exact HI993.out | apply sA_ | apply sN_ | apply sD_ | refine sF_ ?_ NB993_982.out _ | refine sF_ ?_ NB993_1021.out _ | refine sF_ ?_ NB993_1022.out _ | refine sF_ ?_ NB993_1036.out _ | refine sF_ ?_ NB993_1066.out _ | refine sF_ ?_ NB993_1071.out _) | exact HI993.out)⟩
              have n7_ : Aside0 (Below w.heap.size w (((w120.setCell ⟨gb1071, 0, none⟩ (.int .i64 t1067)).setCell ⟨gb1071, 1, none⟩ (.int .i64 t1068)).setCell ⟨gb1071, 2, none⟩ (.int .i64 t1069))) := ⟨by repeat (first | (with_reducible first | exact HB.out | apply lA_ | apply lN_ | apply lD_ | refine lS_ ?_ (sG_ HI993.out) | refine lS_ ?_ GE982.out | refine lS_ ?_ GE1021.out | refine lS_ ?_ GE1022.out | refine lS_ ?_ GE1036.out | refine lS_ ?_ GE1066.out | refine lS_ ?_ GE1071.out) | exact HB.out)⟩
              (try clear BK982)
              (try clear BK1021)
              (try clear BK1022)
              (try clear BK1036)
              (try clear BK1066)
              (try clear BK1071)
              (try clear HI993)
              (try clear HB)
              generalize (((w120.setCell ⟨gb1071, 0, none⟩ (.int .i64 t1067)).setCell ⟨gb1071, 1, none⟩ (.int .i64 t1068)).setCell ⟨gb1071, 2, none⟩ (.int .i64 t1069)) = w131 at n0_ n1_ n2_ n3_ n4_ n5_ n6_ n7_ ⊢
              have BK982 := n0_
              have BK1021 := n1_
              have BK1022 := n2_
              have BK1036 := n3_
              have BK1066 := n4_
              have BK1071 := n5_
              have HI993 := n6_
              have HB := n7_
              clear n0_ n1_ n2_ n3_ n4_ n5_ n6_ n7_
              have n0_ := a0_ (bD_ BK982.out)
              have n1_ := a0_ (bD_ BK1021.out)
              have n2_ := a0_ (bD_ BK1022.out)
              have n3_ := a0_ (bD_ BK1036.out)
              have n4_ := a0_ (bD_ BK1066.out)
              have n5_ := a0_ (bD_ BK1071.out)
              have n6_ := a0_ (sD_ HI993.out)
              have n7_ := a0_ (lD_ HB.out)
              clear BK982
              clear BK1021
              clear BK1022
              clear BK1036
              clear BK1066
              clear BK1071
              clear HI993
              clear HB
              have BK982 := n0_
              have BK1021 := n1_
              have BK1022 := n2_
              have BK1036 := n3_
              have BK1066 := n4_
              have BK1071 := n5_
              have HI993 := n6_
              have HB := n7_
              clear n0_ n1_ n2_ n3_ n4_ n5_ n6_ n7_
              refine start_ (n := 19) (S := fun w' => w'.cell? ⟨gb1066, 0, none⟩ = some (.int .i64 t1062) ∧ w'.cell? ⟨gb1066, 1, none⟩ = some (.int .i64 t1063) ∧ w'.cell? ⟨gb1066, 2, none⟩ = some (.int .i64 t1064) ∧ w'.cell? ⟨gb1022, 0, none⟩ = some (.int .i64 t1008) ∧ w'.cell? ⟨gb1022, 1, none⟩ = some (.int .i64 t1009) ∧ w'.cell? ⟨gb1022, 2, none⟩ = some (.int .i64 t1010)) (ds := []) #[false, false, false, false, false, false, false, false, false, false, false, false, false, false, false, false, false, false, false] (by kernel_rfl) rfl rfl ⟨(bC_ BK1066.out 0).trans rfl, (bC_ BK1066.out 1).trans rfl, (bC_ BK1066.out 2).trans rfl, (bC_ BK1022.out 0).trans rfl, (bC_ BK1022.out 1).trans rfl, (bC_ BK1022.out 2).trans rfl⟩ (fun hHeld => ?_); refine with_tabW stipendlaw04_PeriodPays.tab20 stipendlaw04_PeriodPays.bits20 (fun HT_ HW_ => ?_)
              generalize w131.drew = w132 at BK982 BK1021 BK1022 BK1036 BK1066 BK1071 HI993 HB hHeld ⊢
              refine take_ (i := 0) (N := some 140) (v := ?_) (a' := ?_) #[true, false, false, false, false, false, false, false, false, false, false, false, false, false, false, false, false, false, false] rfl rfl (take_ofW HT_.out HW_.out (by kernel_rfl)) (fun _ _ _ h => h) (Or.inl ⟨by rfl, ?_⟩) hHeld ?_ ?_
              rotate_left
              ·rintro w' ⟨s0, s1, s2, s3, s4, s5⟩
               go_simp
               with_reducible rfl
              rotate_left
              ·simp only [Act.put, zA_, zB_, zC_, i64_w, i32_w]
               rfl
              refine take_ (i := 2) (N := some 142) (v := ?_) (a' := ?_) #[true, false, true, false, false, false, false, false, false, false, false, false, false, false, false, false, false, false, false] rfl rfl (take_ofW HT_.out HW_.out (by kernel_rfl)) (fun _ _ _ h => h) (Or.inl ⟨by rfl, ?_⟩) hHeld ?_ ?_
              rotate_left
              ·rintro w' ⟨s0, s1, s2, s3, s4, s5⟩
               go_simp
               with_reducible rfl
              rotate_left
              ·simp only [Act.put, zA_, zB_, zC_, i64_w, i32_w]
               rfl
              refine one_ (i := 1) (N := some 141) #[true, true, true, false, false, false, false, false, false, false, false, false, false, false, false, false, false, false, false] rfl rfl (one_of HT_.out (by kernel_rfl)) (by decide) (fun K hK => ?_)
              refine goes_ Try.func23 (by kernel_rfl) rfl #[.agg #[.int .i64 t1062, .int .i64 t1063, .int .i64 t1064]] (by rfl) rfl rfl (by (try simp only [List.map_toArray, List.map_cons, List.map_nil]); first | done | rfl) ?_
              with_reducible refine (stipendref03_Number.calls kj46 t1062 t1063 t1064 t1072 _ A128.out).mono ?_
              rintro e w133 ⟨rfl, hb⟩
              refine ⟨_, rfl, ?_⟩
              have n0_ := a0_ (bB_ (g := gb982) (o := .cells #[.int .i64 a1_0, .int .i64 a1_1, .int .i64 a1_2] 23 (0, 0)) (by (with_reducible repeat first | apply bN_ | apply bD_ | apply bA_); exact BK982.out) hb)
              have n1_ := a0_ (bB_ (g := gb1021) (o := .cells #[.int .i64 t1005, .int .i64 t1006, .int .i64 t1007] 23 (0, 0)) (by (with_reducible repeat first | apply bN_ | apply bD_ | apply bA_); exact BK1021.out) hb)
              have n2_ := a0_ (bB_ (g := gb1022) (o := .cells #[.int .i64 t1008, .int .i64 t1009, .int .i64 t1010] 23 (0, 0)) (by (with_reducible repeat first | apply bN_ | apply bD_ | apply bA_); exact BK1022.out) hb)
              have n3_ := a0_ (bB_ (g := gb1036) (o := .cells #[.int .i64 t1023, .int .i64 t1024, .int .i64 t1025] 23 (0, 0)) (by (with_reducible repeat first | apply bN_ | apply bD_ | apply bA_); exact BK1036.out) hb)
              have n4_ := a0_ (IsS62.below (by repeat (first | (with_reducible first | exact HI993.out | apply sA_ | apply sN_ | apply sD_ | refine sF_ ?_ NB993_982.out _ | refine sF_ ?_ NB993_1021.out _ | refine sF_ ?_ NB993_1022.out _ | refine sF_ ?_ NB993_1036.out _ | refine sF_ ?_ NB993_1066.out _ | refine sF_ ?_ NB993_1071.out _) | exact HI993.out)) hb)
              have n5_ := a0_ (bB_ (g := gb1066) (o := .cells #[.int .i64 t1062, .int .i64 t1063, .int .i64 t1064] 23 (0, 0)) (by (with_reducible repeat first | apply bN_ | apply bD_ | apply bA_); exact BK1066.out) hb)
              have n6_ := a0_ (bB_ (g := gb1071) (o := .cells #[.int .i64 t1067, .int .i64 t1068, .int .i64 t1069] 23 (0, 0)) (by (with_reducible repeat first | apply bN_ | apply bD_ | apply bA_); exact BK1071.out) hb)
              have n7_ := a0_ (below_step (by repeat (first | (with_reducible first | exact HB.out | apply lA_ | apply lN_ | apply lD_ | refine lS_ ?_ (sG_ HI993.out) | refine lS_ ?_ GE982.out | refine lS_ ?_ GE1021.out | refine lS_ ?_ GE1022.out | refine lS_ ?_ GE1036.out | refine lS_ ?_ GE1066.out | refine lS_ ?_ GE1071.out) | exact HB.out)) hb)
              clear BK982
              clear BK1021
              clear BK1022
              clear BK1036
              clear HI993
              clear BK1066
              clear BK1071
              clear HB
              have BK982 := n0_
              have BK1021 := n1_
              have BK1022 := n2_
              have BK1036 := n3_
              have HI993 := n4_
              have BK1066 := n5_
              have BK1071 := n6_
              have HB := n7_
              clear n0_ n1_ n2_ n3_ n4_ n5_ n6_ n7_
              (try clear hb)
              (try clear hb2)
              (try clear hk)
              (try clear hi)
              refine hK.out _ _ ⟨(bC_ BK1066.out 0).trans rfl, (bC_ BK1066.out 1).trans rfl, (bC_ BK1066.out 2).trans rfl, (bC_ BK1022.out 0).trans rfl, (bC_ BK1022.out 1).trans rfl, (bC_ BK1022.out 2).trans rfl⟩ (fun hHeld => ?_)
              clear hK K
              refine norm_ (a' := ?_) ?_ ?_
              rotate_left
              ·show Act.put _ (some 141) _ = _
               simp only [Act.put, zA_, zB_, zC_, i64_w, i32_w]
               rfl
              refine one_ (i := 3) (N := some 143) #[true, true, true, true, false, false, false, false, false, false, false, false, false, false, false, false, false, false, false] rfl rfl (one_of HT_.out (by kernel_rfl)) (by decide) (fun K hK => ?_)
              refine goes_ Try.func23 (by kernel_rfl) rfl #[.agg #[.int .i64 t1008, .int .i64 t1009, .int .i64 t1010]] (by rfl) rfl rfl (by (try simp only [List.map_toArray, List.map_cons, List.map_nil]); first | done | rfl) ?_
              with_reducible refine (stipendref03_Number.calls kj46 t1008 t1009 t1010 t1073 _ A129.out).mono ?_
              rintro e w134 ⟨rfl, hb⟩
              refine ⟨_, rfl, ?_⟩
              have n0_ := a0_ (bB_ (g := gb982) (o := .cells #[.int .i64 a1_0, .int .i64 a1_1, .int .i64 a1_2] 23 (0, 0)) (by (with_reducible repeat first | apply bN_ | apply bD_ | apply bA_); exact BK982.out) hb)
              have n1_ := a0_ (bB_ (g := gb1021) (o := .cells #[.int .i64 t1005, .int .i64 t1006, .int .i64 t1007] 23 (0, 0)) (by (with_reducible repeat first | apply bN_ | apply bD_ | apply bA_); exact BK1021.out) hb)
              have n2_ := a0_ (bB_ (g := gb1022) (o := .cells #[.int .i64 t1008, .int .i64 t1009, .int .i64 t1010] 23 (0, 0)) (by (with_reducible repeat first | apply bN_ | apply bD_ | apply bA_); exact BK1022.out) hb)
              have n3_ := a0_ (bB_ (g := gb1036) (o := .cells #[.int .i64 t1023, .int .i64 t1024, .int .i64 t1025] 23 (0, 0)) (by (with_reducible repeat first | apply bN_ | apply bD_ | apply bA_); exact BK1036.out) hb)
              have n4_ := a0_ (IsS62.below (by repeat (first | (with_reducible first | exact HI993.out | apply sA_ | apply sN_ | apply sD_ | refine sF_ ?_ NB993_982.out _ | refine sF_ ?_ NB993_1021.out _ | refine sF_ ?_ NB993_1022.out _ | refine sF_ ?_ NB993_1036.out _ | refine sF_ ?_ NB993_1066.out _ | refine sF_ ?_ NB993_1071.out _) | exact HI993.out)) hb)
              have n5_ := a0_ (bB_ (g := gb1066) (o := .cells #[.int .i64 t1062, .int .i64 t1063, .int .i64 t1064] 23 (0, 0)) (by (with_reducible repeat first | apply bN_ | apply bD_ | apply bA_); exact BK1066.out) hb)
              have n6_ := a0_ (bB_ (g := gb1071) (o := .cells #[.int .i64 t1067, .int .i64 t1068, .int .i64 t1069] 23 (0, 0)) (by (with_reducible repeat first | apply bN_ | apply bD_ | apply bA_); exact BK1071.out) hb)
              have n7_ := a0_ (below_step (by repeat (first | (with_reducible first | exact HB.out | apply lA_ | apply lN_ | apply lD_ | refine lS_ ?_ (sG_ HI993.out) | refine lS_ ?_ GE982.out | refine lS_ ?_ GE1021.out | refine lS_ ?_ GE1022.out | refine lS_ ?_ GE1036.out | refine lS_ ?_ GE1066.out | refine lS_ ?_ GE1071.out) | exact HB.out)) hb)
              clear BK982
              clear BK1021
              clear BK1022
              clear BK1036
              clear HI993
              clear BK1066
              clear BK1071
              clear HB
              have BK982 := n0_
              have BK1021 := n1_
              have BK1022 := n2_
              have BK1036 := n3_
              have HI993 := n4_
              have BK1066 := n5_
              have BK1071 := n6_
              have HB := n7_
              clear n0_ n1_ n2_ n3_ n4_ n5_ n6_ n7_
              (try clear hb)
              (try clear hb2)
              (try clear hk)
              (try clear hi)
              refine hK.out _ _ ⟨(bC_ BK1066.out 0).trans rfl, (bC_ BK1066.out 1).trans rfl, (bC_ BK1066.out 2).trans rfl, (bC_ BK1022.out 0).trans rfl, (bC_ BK1022.out 1).trans rfl, (bC_ BK1022.out 2).trans rfl⟩ (fun hHeld => ?_)
              clear hK K
              refine norm_ (a' := ?_) ?_ ?_
              rotate_left
              ·show Act.put _ (some 143) _ = _
               simp only [Act.put, zA_, zB_, zC_, i64_w, i32_w]
               rfl
              refine pure_ (i := 4) (N := some 144) (v := ?_) (a' := ?_) #[true, true, true, true, true, false, false, false, false, false, false, false, false, false, false, false, false, false, false] rfl rfl (any_of HT_.out (by kernel_rfl)) (fun _ _ _ h => h) (Or.inl ⟨by rfl, ?_⟩) ?_ ?_
              rotate_left
              ·intro w'
               go_simp
               with_reducible rfl
              rotate_left
              ·simp only [Act.put, zA_, zB_, zC_, i64_w, i32_w]
               rfl
              refine pure_ (i := 5) (N := some 145) (v := ?_) (a' := ?_) #[true, true, true, true, true, true, false, false, false, false, false, false, false, false, false, false, false, false, false] rfl rfl (any_of HT_.out (by kernel_rfl)) (fun _ _ _ h => h) (Or.inl ⟨by rfl, ?_⟩) ?_ ?_
              rotate_left
              ·intro w'
               go_simp
               with_reducible rfl
              rotate_left
              ·simp only [Act.put, zA_, zB_, zC_, i64_w, i32_w]
               rfl
              refine pure_ (i := 6) (N := some 146) (v := undef) (a' := ?_) #[true, true, true, true, true, true, true, false, false, false, false, false, false, false, false, false, false, false, false] rfl rfl (any_of HT_.out (by kernel_rfl)) (fun _ _ _ h => h) (Or.inr ⟨by rfl, rfl⟩) ?_ ?_
              rotate_left
              ·simp only [Act.put, zA_, zB_, zC_, i64_w, i32_w]
               rfl
              refine pure_ (i := 7) (N := some 147) (v := undef) (a' := ?_) #[true, true, true, true, true, true, true, true, false, false, false, false, false, false, false, false, false, false, false] rfl rfl (any_of HT_.out (by kernel_rfl)) (fun _ _ _ h => h) (Or.inr ⟨by rfl, rfl⟩) ?_ ?_
              rotate_left
              ·simp only [Act.put, zA_, zB_, zC_, i64_w, i32_w]
               rfl
              refine pure_ (i := 8) (N := some 148) (v := undef) (a' := ?_) #[true, true, true, true, true, true, true, true, true, false, false, false, false, false, false, false, false, false, false] rfl rfl (any_of HT_.out (by kernel_rfl)) (fun _ _ _ h => h) (Or.inr ⟨by rfl, rfl⟩) ?_ ?_
              rotate_left
              ·simp only [Act.put, zA_, zB_, zC_, i64_w, i32_w]
               rfl
              refine pure_ (i := 9) (N := some 149) (v := undef) (a' := ?_) #[true, true, true, true, true, true, true, true, true, true, false, false, false, false, false, false, false, false, false] rfl rfl (any_of HT_.out (by kernel_rfl)) (fun _ _ _ h => h) (Or.inr ⟨by rfl, rfl⟩) ?_ ?_
              rotate_left
              ·simp only [Act.put, zA_, zB_, zC_, i64_w, i32_w]
               rfl
              refine pure_ (i := 10) (N := some 150) (v := undef) (a' := ?_) #[true, true, true, true, true, true, true, true, true, true, true, false, false, false, false, false, false, false, false] rfl rfl (any_of HT_.out (by kernel_rfl)) (fun _ _ _ h => h) (Or.inr ⟨by rfl, rfl⟩) ?_ ?_
              rotate_left
              ·simp only [Act.put, zA_, zB_, zC_, i64_w, i32_w]
               rfl
              refine pure_ (i := 11) (N := some 151) (v := undef) (a' := ?_) #[true, true, true, true, true, true, true, true, true, true, true, true, false, false, false, false, false, false, false] rfl rfl (any_of HT_.out (by kernel_rfl)) (fun _ _ _ h => h) (Or.inr ⟨by rfl, rfl⟩) ?_ ?_
              rotate_left
              ·simp only [Act.put, zA_, zB_, zC_, i64_w, i32_w]
               rfl
              refine pure_ (i := 12) (N := some 152) (v := undef) (a' := ?_) #[true, true, true, true, true, true, true, true, true, true, true, true, true, false, false, false, false, false, false] rfl rfl (any_of HT_.out (by kernel_rfl)) (fun _ _ _ h => h) (Or.inr ⟨by rfl, rfl⟩) ?_ ?_
              rotate_left
              ·simp only [Act.put, zA_, zB_, zC_, i64_w, i32_w]
               rfl
              refine pure_ (i := 13) (N := some 153) (v := undef) (a' := ?_) #[true, true, true, true, true, true, true, true, true, true, true, true, true, true, false, false, false, false, false] rfl rfl (any_of HT_.out (by kernel_rfl)) (fun _ _ _ h => h) (Or.inr ⟨by rfl, rfl⟩) ?_ ?_
              rotate_left
              ·simp only [Act.put, zA_, zB_, zC_, i64_w, i32_w]
               rfl
              refine pure_ (i := 14) (N := some 154) (v := undef) (a' := ?_) #[true, true, true, true, true, true, true, true, true, true, true, true, true, true, true, false, false, false, false] rfl rfl (any_of HT_.out (by kernel_rfl)) (fun _ _ _ h => h) (Or.inr ⟨by rfl, rfl⟩) ?_ ?_
              rotate_left
              ·simp only [Act.put, zA_, zB_, zC_, i64_w, i32_w]
               rfl
              refine pure_ (i := 15) (N := some 155) (v := undef) (a' := ?_) #[true, true, true, true, true, true, true, true, true, true, true, true, true, true, true, true, false, false, false] rfl rfl (any_of HT_.out (by kernel_rfl)) (fun _ _ _ h => h) (Or.inr ⟨by rfl, rfl⟩) ?_ ?_
              rotate_left
              ·simp only [Act.put, zA_, zB_, zC_, i64_w, i32_w]
               rfl
              refine pure_ (i := 16) (N := some 156) (v := undef) (a' := ?_) #[true, true, true, true, true, true, true, true, true, true, true, true, true, true, true, true, true, false, false] rfl rfl (any_of HT_.out (by kernel_rfl)) (fun _ _ _ h => h) (Or.inr ⟨by rfl, rfl⟩) ?_ ?_
              rotate_left
              ·simp only [Act.put, zA_, zB_, zC_, i64_w, i32_w]
               rfl
              refine pure_ (i := 17) (N := some 157) (v := undef) (a' := ?_) #[true, true, true, true, true, true, true, true, true, true, true, true, true, true, true, true, true, true, false] rfl rfl (any_of HT_.out (by kernel_rfl)) (fun _ _ _ h => h) (Or.inr ⟨by rfl, rfl⟩) ?_ ?_
              rotate_left
              ·simp only [Act.put, zA_, zB_, zC_, i64_w, i32_w]
               rfl
              refine pure_ (i := 18) (N := some 158) (v := ?_) (a' := ?_) #[true, true, true, true, true, true, true, true, true, true, true, true, true, true, true, true, true, true, true] rfl rfl (any_of HT_.out (by kernel_rfl)) (fun _ _ _ h => h) (Or.inl ⟨by rfl, ?_⟩) ?_ ?_
              rotate_left
              ·intro w'
               go_simp
               with_reducible rfl
              rotate_left
              ·simp only [Act.put, zA_, zB_, zC_, i64_w, i32_w]
               rfl
              refine done_ (done_of HT_.out (by kernel_rfl)) ?_
              try go_wp2
              go_meet
              case rel => exact ⟨_, (true), (by first | rfl | (simp; done) | (simp [*]; done)), H', ⟨by have := HK1.out; have := HJ16.out; have := HJ46.out; first | omega | exact Nat.le_refl _⟩, ⟨by (with_reducible repeat first | apply bN_ | apply bD_ | apply bA_); exact BK982.out⟩, ⟨by (with_reducible repeat first | apply bN_ | apply bD_ | apply bA_); exact BK1021.out⟩, ⟨by (with_reducible repeat first | apply bN_ | apply bD_ | apply bA_); exact BK1022.out⟩, ⟨by (with_reducible repeat first | apply bN_ | apply bD_ | apply bA_); exact BK1036.out⟩, ⟨by (with_reducible repeat first | apply bN_ | apply bD_ | apply bA_); exact BK1066.out⟩, ⟨by (with_reducible repeat first | apply bN_ | apply bD_ | apply bA_); exact BK1071.out⟩, ⟨by repeat (first | (with_reducible first | exact HI993.out | apply sA_ | apply sN_ | apply sD_ | refine sF_ ?_ NB993_982.out _ | refine sF_ ?_ NB993_1021.out _ | refine sF_ ?_ NB993_1022.out _ | refine sF_ ?_ NB993_1036.out _ | refine sF_ ?_ NB993_1066.out _ | refine sF_ ?_ NB993_1071.out _) | exact HI993.out)⟩, ⟨by repeat (first | (with_reducible first | exact HB.out | apply lA_ | apply lN_ | apply lD_ | refine lS_ ?_ (sG_ HI993.out) | refine lS_ ?_ GE982.out | refine lS_ ?_ GE1021.out | refine lS_ ?_ GE1022.out | refine lS_ ?_ GE1036.out | refine lS_ ?_ GE1066.out | refine lS_ ?_ GE1071.out) | exact HB.out)⟩⟩
             ·rw [if_neg c130] at H
              have c130b0 : decide (t1073 < t1072) = false := decide_eq_false c130
              clear c130
              (first | rw [c130b0] | (simp only [i64_w, i32_w]; rw [c130b0]) | skip)
              by_cases c135 : t1070 = true
              ·subst c135
               have H1 : (if t1037 < 4 then ((stipendref03_Number.f kj46 t1067 t1068 t1069).bind fun t1074 => ((stipendref03_Number.f kj46 t1008 t1009 t1010).bind fun t1075 => (stipendlaw04_PeriodPays.j3 kj46 x7_1 x9_1 t1037 t1048 (decide (t1074 ≤ t1075)) a1_0 a1_1 a1_2 t1050 t1051 t1052 t1053 t1054 t1055 t1056 t1057 t1058))) else (stipendlaw04_PeriodPays.j3 kj46 x7_1 x9_1 t1037 t1048 false a1_0 a1_1 a1_2 t1050 t1051 t1052 t1053 t1054 t1055 t1056 t1057 t1058)) = some r := by rw [if_pos rfl] at H; exact H
               clear H
               have H := H1
               clear H1
               by_cases c136 : t1037 < 4
               ·rw [if_pos c136] at H
                have c136b0 : decide (t1037 < 4) = true := decide_eq_true c136
                clear c136
                replace H := oB_ H
                obtain ⟨t1074, A1370, H⟩ := H
                replace H : ((stipendref03_Number.f kj46 t1008 t1009 t1010).bind fun t1075 => (stipendlaw04_PeriodPays.j3 kj46 x7_1 x9_1 t1037 t1048 (decide (t1074 ≤ t1075)) a1_0 a1_1 a1_2 t1050 t1051 t1052 t1053 t1054 t1055 t1056 t1057 t1058)) = some r := H
                have A137 := a0_ A1370
                clear A1370
                replace H := oB_ H
                obtain ⟨t1075, A1380, H⟩ := H
                replace H : (stipendlaw04_PeriodPays.j3 kj46 x7_1 x9_1 t1037 t1048 (decide (t1074 ≤ t1075)) a1_0 a1_1 a1_2 t1050 t1051 t1052 t1053 t1054 t1055 t1056 t1057 t1058) = some r := H
                have A138 := a0_ A1380
                clear A1380
                have H' := a0_ H
                clear H
                try go_wp2
                have n0_ : Aside0 ((((w120.setCell ⟨gb1071, 0, none⟩ (.int .i64 t1067)).setCell ⟨gb1071, 1, none⟩ (.int .i64 t1068)).setCell ⟨gb1071, 2, none⟩ (.int .i64 t1069)).heap[gb982]? = some (.cells #[.int .i64 a1_0, .int .i64 a1_1, .int .i64 a1_2] 23 (0, 0))) := ⟨by (with_reducible repeat first | apply bN_ | apply bD_ | apply bA_); refine blk_far ?_ NB982_1071.out _; (with_reducible repeat first | apply bN_ | apply bD_ | apply bA_); refine blk_far ?_ NB982_1071.out _; (with_reducible repeat first | apply bN_ | apply bD_ | apply bA_); refine blk_far ?_ NB982_1071.out _; (with_reducible repeat first | apply bN_ | apply bD_ | apply bA_); exact BK982.out⟩
                have n1_ : Aside0 ((((w120.setCell ⟨gb1071, 0, none⟩ (.int .i64 t1067)).setCell ⟨gb1071, 1, none⟩ (.int .i64 t1068)).setCell ⟨gb1071, 2, none⟩ (.int .i64 t1069)).heap[gb1021]? = some (.cells #[.int .i64 t1005, .int .i64 t1006, .int .i64 t1007] 23 (0, 0))) := ⟨by (with_reducible repeat first | apply bN_ | apply bD_ | apply bA_); refine blk_far ?_ NB1021_1071.out _; (with_reducible repeat first | apply bN_ | apply bD_ | apply bA_); refine blk_far ?_ NB1021_1071.out _; (with_reducible repeat first | apply bN_ | apply bD_ | apply bA_); refine blk_far ?_ NB1021_1071.out _; (with_reducible repeat first | apply bN_ | apply bD_ | apply bA_); exact BK1021.out⟩
                have n2_ : Aside0 ((((w120.setCell ⟨gb1071, 0, none⟩ (.int .i64 t1067)).setCell ⟨gb1071, 1, none⟩ (.int .i64 t1068)).setCell ⟨gb1071, 2, none⟩ (.int .i64 t1069)).heap[gb1022]? = some (.cells #[.int .i64 t1008, .int .i64 t1009, .int .i64 t1010] 23 (0, 0))) := ⟨by (with_reducible repeat first | apply bN_ | apply bD_ | apply bA_); refine blk_far ?_ NB1022_1071.out _; (with_reducible repeat first | apply bN_ | apply bD_ | apply bA_); refine blk_far ?_ NB1022_1071.out _; (with_reducible repeat first | apply bN_ | apply bD_ | apply bA_); refine blk_far ?_ NB1022_1071.out _; (with_reducible repeat first | apply bN_ | apply bD_ | apply bA_); exact BK1022.out⟩
                have n3_ : Aside0 ((((w120.setCell ⟨gb1071, 0, none⟩ (.int .i64 t1067)).setCell ⟨gb1071, 1, none⟩ (.int .i64 t1068)).setCell ⟨gb1071, 2, none⟩ (.int .i64 t1069)).heap[gb1036]? = some (.cells #[.int .i64 t1023, .int .i64 t1024, .int .i64 t1025] 23 (0, 0))) := ⟨by (with_reducible repeat first | apply bN_ | apply bD_ | apply bA_); refine blk_far ?_ NB1036_1071.out _; (with_reducible repeat first | apply bN_ | apply bD_ | apply bA_); refine blk_far ?_ NB1036_1071.out _; (with_reducible repeat first | apply bN_ | apply bD_ | apply bA_); refine blk_far ?_ NB1036_1071.out _; (with_reducible repeat first | apply bN_ | apply bD_ | apply bA_); exact BK1036.out⟩
                have n4_ : Aside0 ((((w120.setCell ⟨gb1071, 0, none⟩ (.int .i64 t1067)).setCell ⟨gb1071, 1, none⟩ (.int .i64 t1068)).setCell ⟨gb1071, 2, none⟩ (.int .i64 t1069)).heap[gb1066]? = some (.cells #[.int .i64 t1062, .int .i64 t1063, .int .i64 t1064] 23 (0, 0))) := ⟨by (with_reducible repeat first | apply bN_ | apply bD_ | apply bA_); refine blk_far ?_ NB1066_1071.out _; (with_reducible repeat first | apply bN_ | apply bD_ | apply bA_); refine blk_far ?_ NB1066_1071.out _; (with_reducible repeat first | apply bN_ | apply bD_ | apply bA_); refine blk_far ?_ NB1066_1071.out _; (with_reducible repeat first | apply bN_ | apply bD_ | apply bA_); exact BK1066.out⟩
                have n5_ : Aside0 ((((w120.setCell ⟨gb1071, 0, none⟩ (.int .i64 t1067)).setCell ⟨gb1071, 1, none⟩ (.int .i64 t1068)).setCell ⟨gb1071, 2, none⟩ (.int .i64 t1069)).heap[gb1071]? = some (.cells #[.int .i64 t1067, .int .i64 t1068, .int .i64 t1069] 23 (0, 0))) := ⟨by (with_reducible repeat first | apply bN_ | apply bD_ | apply bA_); refine blk_put (cs := #[.int .i64 t1067, .int .i64 t1068, .int .i64 0]) ?_ 2 _ rfl; (with_reducible repeat first | apply bN_ | apply bD_ | apply bA_); refine blk_put (cs := #[.int .i64 t1067, .int .i64 0, .int .i64 0]) ?_ 1 _ rfl; (with_reducible repeat first | apply bN_ | apply bD_ | apply bA_); refine blk_put (cs := #[.int .i64 0, .int .i64 0, .int .i64 0]) ?_ 0 _ rfl; (with_reducible repeat first | apply bN_ | apply bD_ | apply bA_); exact BK1071.out⟩
                have n6_ : Aside0 (IsS62 w (((w120.setCell ⟨gb1071, 0, none⟩ (.int .i64 t1067)).setCell ⟨gb1071, 1, none⟩ (.int .i64 t1068)).setCell ⟨gb1071, 2, none⟩ (.int .i64 t1069)) g993 t1050 t1051 t1052 t1053 t1054 t1055 t1056 t1057 t1058) := ⟨by repeat (first | (with_reducible first | exact HI993.out | apply sA_ | apply sN_ | apply sD_ | refine sF_ ?_ NB993_982.out _ | refine sF_ ?_ NB993_1021.out _ | refine sF_ ?_ NB993_1022.out _ | refine sF_ ?_ NB993_1036.out _ | refine sF_ ?_ NB993_1066.out _ | refine sF_ ?_ NB993_1071.out _) | exact HI993.out)⟩
                have n7_ : Aside0 (Below w.heap.size w (((w120.setCell ⟨gb1071, 0, none⟩ (.int .i64 t1067)).setCell ⟨gb1071, 1, none⟩ (.int .i64 t1068)).setCell ⟨gb1071, 2, none⟩ (.int .i64 t1069))) := ⟨by repeat (first | (with_reducible first | exact HB.out | apply lA_ | apply lN_ | apply lD_ | refine lS_ ?_ (sG_ HI993.out) | refine lS_ ?_ GE982.out | refine lS_ ?_ GE1021.out | refine lS_ ?_ GE1022.out | refine lS_ ?_ GE1036.out | refine lS_ ?_ GE1066.out | refine lS_ ?_ GE1071.out) | exact HB.out)⟩
                (try clear BK982)
                (try clear BK1021)
                (try clear BK1022)
                (try clear BK1036)
                (try clear BK1066)
                (try clear BK1071)
                (try clear HI993)
                (try clear HB)
                generalize (((w120.setCell ⟨gb1071, 0, none⟩ (.int .i64 t1067)).setCell ⟨gb1071, 1, none⟩ (.int .i64 t1068)).setCell ⟨gb1071, 2, none⟩ (.int .i64 t1069)) = w139 at n0_ n1_ n2_ n3_ n4_ n5_ n6_ n7_ ⊢
                have BK982 := n0_
                have BK1021 := n1_
                have BK1022 := n2_
                have BK1036 := n3_
                have BK1066 := n4_
                have BK1071 := n5_
                have HI993 := n6_
                have HB := n7_
                clear n0_ n1_ n2_ n3_ n4_ n5_ n6_ n7_
                have n0_ := a0_ (bD_ BK982.out)
                have n1_ := a0_ (bD_ BK1021.out)
                have n2_ := a0_ (bD_ BK1022.out)
                have n3_ := a0_ (bD_ BK1036.out)
                have n4_ := a0_ (bD_ BK1066.out)
                have n5_ := a0_ (bD_ BK1071.out)
                have n6_ := a0_ (sD_ HI993.out)
                have n7_ := a0_ (lD_ HB.out)
                clear BK982
                clear BK1021
                clear BK1022
                clear BK1036
                clear BK1066
                clear BK1071
                clear HI993
                clear HB
                have BK982 := n0_
                have BK1021 := n1_
                have BK1022 := n2_
                have BK1036 := n3_
                have BK1066 := n4_
                have BK1071 := n5_
                have HI993 := n6_
                have HB := n7_
                clear n0_ n1_ n2_ n3_ n4_ n5_ n6_ n7_
                refine start_ (n := 19) (S := fun w' => w'.cell? ⟨gb1066, 0, none⟩ = some (.int .i64 t1062) ∧ w'.cell? ⟨gb1066, 1, none⟩ = some (.int .i64 t1063) ∧ w'.cell? ⟨gb1066, 2, none⟩ = some (.int .i64 t1064) ∧ w'.cell? ⟨gb1022, 0, none⟩ = some (.int .i64 t1008) ∧ w'.cell? ⟨gb1022, 1, none⟩ = some (.int .i64 t1009) ∧ w'.cell? ⟨gb1022, 2, none⟩ = some (.int .i64 t1010) ∧ w'.cell? ⟨gb1071, 0, none⟩ = some (.int .i64 t1067) ∧ w'.cell? ⟨gb1071, 1, none⟩ = some (.int .i64 t1068) ∧ w'.cell? ⟨gb1071, 2, none⟩ = some (.int .i64 t1069)) (ds := []) #[false, false, false, false, false, false, false, false, false, false, false, false, false, false, false, false, false, false, false] (by kernel_rfl) rfl rfl ⟨(bC_ BK1066.out 0).trans rfl, (bC_ BK1066.out 1).trans rfl, (bC_ BK1066.out 2).trans rfl, (bC_ BK1022.out 0).trans rfl, (bC_ BK1022.out 1).trans rfl, (bC_ BK1022.out 2).trans rfl, (bC_ BK1071.out 0).trans rfl, (bC_ BK1071.out 1).trans rfl, (bC_ BK1071.out 2).trans rfl⟩ (fun hHeld => ?_); refine with_tabW stipendlaw04_PeriodPays.tab20 stipendlaw04_PeriodPays.bits20 (fun HT_ HW_ => ?_)
                generalize w139.drew = w140 at BK982 BK1021 BK1022 BK1036 BK1066 BK1071 HI993 HB hHeld ⊢
                refine take_ (i := 0) (N := some 140) (v := ?_) (a' := ?_) #[true, false, false, false, false, false, false, false, false, false, false, false, false, false, false, false, false, false, false] rfl rfl (take_ofW HT_.out HW_.out (by kernel_rfl)) (fun _ _ _ h => h) (Or.inl ⟨by rfl, ?_⟩) hHeld ?_ ?_
                rotate_left
                ·rintro w' ⟨s0, s1, s2, s3, s4, s5, s6, s7, s8⟩
                 go_simp
                 with_reducible rfl
                rotate_left
                ·simp only [Act.put, zA_, zB_, zC_, i64_w, i32_w]
                 rfl
                refine take_ (i := 2) (N := some 142) (v := ?_) (a' := ?_) #[true, false, true, false, false, false, false, false, false, false, false, false, false, false, false, false, false, false, false] rfl rfl (take_ofW HT_.out HW_.out (by kernel_rfl)) (fun _ _ _ h => h) (Or.inl ⟨by rfl, ?_⟩) hHeld ?_ ?_
                rotate_left
                ·rintro w' ⟨s0, s1, s2, s3, s4, s5, s6, s7, s8⟩
                 go_simp
                 with_reducible rfl
                rotate_left
                ·simp only [Act.put, zA_, zB_, zC_, i64_w, i32_w]
                 rfl
                refine one_ (i := 1) (N := some 141) #[true, true, true, false, false, false, false, false, false, false, false, false, false, false, false, false, false, false, false] rfl rfl (one_of HT_.out (by kernel_rfl)) (by decide) (fun K hK => ?_)
                refine goes_ Try.func23 (by kernel_rfl) rfl #[.agg #[.int .i64 t1062, .int .i64 t1063, .int .i64 t1064]] (by rfl) rfl rfl (by (try simp only [List.map_toArray, List.map_cons, List.map_nil]); first | done | rfl) ?_
                with_reducible refine (stipendref03_Number.calls kj46 t1062 t1063 t1064 t1072 _ A128.out).mono ?_
                rintro e w141 ⟨rfl, hb⟩
                refine ⟨_, rfl, ?_⟩
                have n0_ := a0_ (bB_ (g := gb982) (o := .cells #[.int .i64 a1_0, .int .i64 a1_1, .int .i64 a1_2] 23 (0, 0)) (by (with_reducible repeat first | apply bN_ | apply bD_ | apply bA_); exact BK982.out) hb)
                have n1_ := a0_ (bB_ (g := gb1021) (o := .cells #[.int .i64 t1005, .int .i64 t1006, .int .i64 t1007] 23 (0, 0)) (by (with_reducible repeat first | apply bN_ | apply bD_ | apply bA_); exact BK1021.out) hb)
                have n2_ := a0_ (bB_ (g := gb1022) (o := .cells #[.int .i64 t1008, .int .i64 t1009, .int .i64 t1010] 23 (0, 0)) (by (with_reducible repeat first | apply bN_ | apply bD_ | apply bA_); exact BK1022.out) hb)
                have n3_ := a0_ (bB_ (g := gb1036) (o := .cells #[.int .i64 t1023, .int .i64 t1024, .int .i64 t1025] 23 (0, 0)) (by (with_reducible repeat first | apply bN_ | apply bD_ | apply bA_); exact BK1036.out) hb)
                have n4_ := a0_ (IsS62.below (by repeat (first | (with_reducible first | exact HI993.out | apply sA_ | apply sN_ | apply sD_ | refine sF_ ?_ NB993_982.out _ | refine sF_ ?_ NB993_1021.out _ | refine sF_ ?_ NB993_1022.out _ | refine sF_ ?_ NB993_1036.out _ | refine sF_ ?_ NB993_1066.out _ | refine sF_ ?_ NB993_1071.out _) | exact HI993.out)) hb)
                have n5_ := a0_ (bB_ (g := gb1066) (o := .cells #[.int .i64 t1062, .int .i64 t1063, .int .i64 t1064] 23 (0, 0)) (by (with_reducible repeat first | apply bN_ | apply bD_ | apply bA_); exact BK1066.out) hb)
                have n6_ := a0_ (bB_ (g := gb1071) (o := .cells #[.int .i64 t1067, .int .i64 t1068, .int .i64 t1069] 23 (0, 0)) (by (with_reducible repeat first | apply bN_ | apply bD_ | apply bA_); exact BK1071.out) hb)
                have n7_ := a0_ (below_step (by repeat (first | (with_reducible first | exact HB.out | apply lA_ | apply lN_ | apply lD_ | refine lS_ ?_ (sG_ HI993.out) | refine lS_ ?_ GE982.out | refine lS_ ?_ GE1021.out | refine lS_ ?_ GE1022.out | refine lS_ ?_ GE1036.out | refine lS_ ?_ GE1066.out | refine lS_ ?_ GE1071.out) | exact HB.out)) hb)
                clear BK982
                clear BK1021
                clear BK1022
                clear BK1036
                clear HI993
                clear BK1066
                clear BK1071
                clear HB
                have BK982 := n0_
                have BK1021 := n1_
                have BK1022 := n2_
                have BK1036 := n3_
                have HI993 := n4_
                have BK1066 := n5_
                have BK1071 := n6_
                have HB := n7_
                clear n0_ n1_ n2_ n3_ n4_ n5_ n6_ n7_
                (try clear hb)
                (try clear hb2)
                (try clear hk)
                (try clear hi)
                refine hK.out _ _ ⟨(bC_ BK1066.out 0).trans rfl, (bC_ BK1066.out 1).trans rfl, (bC_ BK1066.out 2).trans rfl, (bC_ BK1022.out 0).trans rfl, (bC_ BK1022.out 1).trans rfl, (bC_ BK1022.out 2).trans rfl, (bC_ BK1071.out 0).trans rfl, (bC_ BK1071.out 1).trans rfl, (bC_ BK1071.out 2).trans rfl⟩ (fun hHeld => ?_)
                clear hK K
                refine norm_ (a' := ?_) ?_ ?_
                rotate_left
                ·show Act.put _ (some 141) _ = _
                 simp only [Act.put, zA_, zB_, zC_, i64_w, i32_w]
                 rfl
                refine one_ (i := 3) (N := some 143) #[true, true, true, true, false, false, false, false, false, false, false, false, false, false, false, false, false, false, false] rfl rfl (one_of HT_.out (by kernel_rfl)) (by decide) (fun K hK => ?_)
                refine goes_ Try.func23 (by kernel_rfl) rfl #[.agg #[.int .i64 t1008, .int .i64 t1009, .int .i64 t1010]] (by rfl) rfl rfl (by (try simp only [List.map_toArray, List.map_cons, List.map_nil]); first | done | rfl) ?_
                with_reducible refine (stipendref03_Number.calls kj46 t1008 t1009 t1010 t1073 _ A129.out).mono ?_
                rintro e w142 ⟨rfl, hb⟩
                refine ⟨_, rfl, ?_⟩
                have n0_ := a0_ (bB_ (g := gb982) (o := .cells #[.int .i64 a1_0, .int .i64 a1_1, .int .i64 a1_2] 23 (0, 0)) (by (with_reducible repeat first | apply bN_ | apply bD_ | apply bA_); exact BK982.out) hb)
                have n1_ := a0_ (bB_ (g := gb1021) (o := .cells #[.int .i64 t1005, .int .i64 t1006, .int .i64 t1007] 23 (0, 0)) (by (with_reducible repeat first | apply bN_ | apply bD_ | apply bA_); exact BK1021.out) hb)
                have n2_ := a0_ (bB_ (g := gb1022) (o := .cells #[.int .i64 t1008, .int .i64 t1009, .int .i64 t1010] 23 (0, 0)) (by (with_reducible repeat first | apply bN_ | apply bD_ | apply bA_); exact BK1022.out) hb)
                have n3_ := a0_ (bB_ (g := gb1036) (o := .cells #[.int .i64 t1023, .int .i64 t1024, .int .i64 t1025] 23 (0, 0)) (by (with_reducible repeat first | apply bN_ | apply bD_ | apply bA_); exact BK1036.out) hb)
                have n4_ := a0_ (IsS62.below (by repeat (first | (with_reducible first | exact HI993.out | apply sA_ | apply sN_ | apply sD_ | refine sF_ ?_ NB993_982.out _ | refine sF_ ?_ NB993_1021.out _ | refine sF_ ?_ NB993_1022.out _ | refine sF_ ?_ NB993_1036.out _ | refine sF_ ?_ NB993_1066.out _ | refine sF_ ?_ NB993_1071.out _) | exact HI993.out)) hb)
                have n5_ := a0_ (bB_ (g := gb1066) (o := .cells #[.int .i64 t1062, .int .i64 t1063, .int .i64 t1064] 23 (0, 0)) (by (with_reducible repeat first | apply bN_ | apply bD_ | apply bA_); exact BK1066.out) hb)
                have n6_ := a0_ (bB_ (g := gb1071) (o := .cells #[.int .i64 t1067, .int .i64 t1068, .int .i64 t1069] 23 (0, 0)) (by (with_reducible repeat first | apply bN_ | apply bD_ | apply bA_); exact BK1071.out) hb)
                have n7_ := a0_ (below_step (by repeat (first | (with_reducible first | exact HB.out | apply lA_ | apply lN_ | apply lD_ | refine lS_ ?_ (sG_ HI993.out) | refine lS_ ?_ GE982.out | refine lS_ ?_ GE1021.out | refine lS_ ?_ GE1022.out | refine lS_ ?_ GE1036.out | refine lS_ ?_ GE1066.out | refine lS_ ?_ GE1071.out) | exact HB.out)) hb)
                clear BK982
                clear BK1021
                clear BK1022
                clear BK1036
                clear HI993
                clear BK1066
                clear BK1071
                clear HB
                have BK982 := n0_
                have BK1021 := n1_
                have BK1022 := n2_
                have BK1036 := n3_
                have HI993 := n4_
                have BK1066 := n5_
                have BK1071 := n6_
                have HB := n7_
                clear n0_ n1_ n2_ n3_ n4_ n5_ n6_ n7_
                (try clear hb)
                (try clear hb2)
                (try clear hk)
                (try clear hi)
                refine hK.out _ _ ⟨(bC_ BK1066.out 0).trans rfl, (bC_ BK1066.out 1).trans rfl, (bC_ BK1066.out 2).trans rfl, (bC_ BK1022.out 0).trans rfl, (bC_ BK1022.out 1).trans rfl, (bC_ BK1022.out 2).trans rfl, (bC_ BK1071.out 0).trans rfl, (bC_ BK1071.out 1).trans rfl, (bC_ BK1071.out 2).trans rfl⟩ (fun hHeld => ?_)
                clear hK K
                refine norm_ (a' := ?_) ?_ ?_
                rotate_left
                ·show Act.put _ (some 143) _ = _
                 simp only [Act.put, zA_, zB_, zC_, i64_w, i32_w]
                 rfl
                refine pure_ (i := 4) (N := some 144) (v := ?_) (a' := ?_) #[true, true, true, true, true, false, false, false, false, false, false, false, false, false, false, false, false, false, false] rfl rfl (any_of HT_.out (by kernel_rfl)) (fun _ _ _ h => h) (Or.inl ⟨by rfl, ?_⟩) ?_ ?_
                rotate_left
                ·intro w'
                 go_simp
                 with_reducible rfl
                rotate_left
                ·simp only [Act.put, zA_, zB_, zC_, i64_w, i32_w]
                 rfl
                refine pure_ (i := 5) (N := some 145) (v := ?_) (a' := ?_) #[true, true, true, true, true, true, false, false, false, false, false, false, false, false, false, false, false, false, false] rfl rfl (any_of HT_.out (by kernel_rfl)) (fun _ _ _ h => h) (Or.inl ⟨by rfl, ?_⟩) ?_ ?_
                rotate_left
                ·intro w'
                 go_simp
                 with_reducible rfl
                rotate_left
                ·simp only [Act.put, zA_, zB_, zC_, i64_w, i32_w]
                 rfl
                refine pure_ (i := 6) (N := some 146) (v := ?_) (a' := ?_) #[true, true, true, true, true, true, true, false, false, false, false, false, false, false, false, false, false, false, false] rfl rfl (any_of HT_.out (by kernel_rfl)) (fun _ _ _ h => h) (Or.inl ⟨by rfl, ?_⟩) ?_ ?_
                rotate_left
                ·intro w'
                 go_simp
                 with_reducible rfl
                rotate_left
                ·simp only [Act.put, zA_, zB_, zC_, i64_w, i32_w]
                 rfl
                refine pure_ (i := 7) (N := some 147) (v := ?_) (a' := ?_) #[true, true, true, true, true, true, true, true, false, false, false, false, false, false, false, false, false, false, false] rfl rfl (any_of HT_.out (by kernel_rfl)) (fun _ _ _ h => h) (Or.inl ⟨by rfl, ?_⟩) ?_ ?_
                rotate_left
                ·intro w'
                 go_simp
                 with_reducible rfl
                rotate_left
                ·simp only [Act.put, zA_, zB_, zC_, i64_w, i32_w]
                 rfl
                refine pure_ (i := 8) (N := some 148) (v := ?_) (a' := ?_) #[true, true, true, true, true, true, true, true, true, false, false, false, false, false, false, false, false, false, false] rfl rfl (any_of HT_.out (by kernel_rfl)) (fun _ _ _ h => h) (Or.inl ⟨by rfl, ?_⟩) ?_ ?_
                rotate_left
                ·intro w'
                 go_simp
                 with_reducible rfl
                rotate_left
                ·simp only [Act.put, zA_, zB_, zC_, i64_w, i32_w]
                 rfl
                refine pure_ (i := 9) (N := some 149) (v := ?_) (a' := ?_) #[true, true, true, true, true, true, true, true, true, true, false, false, false, false, false, false, false, false, false] rfl rfl (any_of HT_.out (by kernel_rfl)) (fun _ _ _ h => h) (Or.inl ⟨by rfl, ?_⟩) ?_ ?_
                rotate_left
                ·intro w'
                 go_simp
                 with_reducible rfl
                rotate_left
                ·simp only [Act.put, zA_, zB_, zC_, i64_w, i32_w]
                 rfl
                refine pure_ (i := 10) (N := some 150) (v := ?_) (a' := ?_) #[true, true, true, true, true, true, true, true, true, true, true, false, false, false, false, false, false, false, false] rfl rfl (any_of HT_.out (by kernel_rfl)) (fun _ _ _ h => h) (Or.inl ⟨by rfl, ?_⟩) ?_ ?_
                rotate_left
                ·intro w'
                 go_simp
                 with_reducible rfl
                rotate_left
                ·simp only [Act.put, zA_, zB_, zC_, i64_w, i32_w]
                 rfl
                refine pure_ (i := 11) (N := some 151) (v := ?_) (a' := ?_) #[true, true, true, true, true, true, true, true, true, true, true, true, false, false, false, false, false, false, false] rfl rfl (any_of HT_.out (by kernel_rfl)) (fun _ _ _ h => h) (Or.inl ⟨by rfl, ?_⟩) ?_ ?_
                rotate_left
                ·intro w'
                 go_simp
                 with_reducible rfl
                rotate_left
                ·simp only [Act.put, zA_, zB_, zC_, i64_w, i32_w]
                 rfl
                refine take_ (i := 12) (N := some 152) (v := ?_) (a' := ?_) #[true, true, true, true, true, true, true, true, true, true, true, true, true, false, false, false, false, false, false] rfl rfl (take_ofW HT_.out HW_.out (by kernel_rfl)) (fun _ _ _ h => h) (Or.inl ⟨by rfl, ?_⟩) hHeld ?_ ?_
                rotate_left
                ·rintro w' ⟨s0, s1, s2, s3, s4, s5, s6, s7, s8⟩
                 go_simp
                 with_reducible rfl
                rotate_left
                ·simp only [Act.put, zA_, zB_, zC_, i64_w, i32_w]
                 rfl
                refine take_ (i := 14) (N := some 154) (v := ?_) (a' := ?_) #[true, true, true, true, true, true, true, true, true, true, true, true, true, false, true, false, false, false, false] rfl rfl (take_ofW HT_.out HW_.out (by kernel_rfl)) (fun _ _ _ h => h) (Or.inl ⟨by rfl, ?_⟩) hHeld ?_ ?_
                rotate_left
                ·rintro w' ⟨s0, s1, s2, s3, s4, s5, s6, s7, s8⟩
                 go_simp
                 with_reducible rfl
                rotate_left
                ·simp only [Act.put, zA_, zB_, zC_, i64_w, i32_w]
                 rfl
                refine one_ (i := 13) (N := some 153) #[true, true, true, true, true, true, true, true, true, true, true, true, true, true, true, false, false, false, false] rfl rfl (one_of HT_.out (by kernel_rfl)) (by decide) (fun K hK => ?_)
                refine goes_ Try.func23 (by kernel_rfl) rfl #[.agg #[.int .i64 t1067, .int .i64 t1068, .int .i64 t1069]] (by rfl) rfl rfl (by (try simp only [List.map_toArray, List.map_cons, List.map_nil]); first | done | rfl) ?_
                with_reducible refine (stipendref03_Number.calls kj46 t1067 t1068 t1069 t1074 _ A137.out).mono ?_
                rintro e w143 ⟨rfl, hb⟩
                refine ⟨_, rfl, ?_⟩
                have n0_ := a0_ (bB_ (g := gb982) (o := .cells #[.int .i64 a1_0, .int .i64 a1_1, .int .i64 a1_2] 23 (0, 0)) (by (with_reducible repeat first | apply bN_ | apply bD_ | apply bA_); exact BK982.out) hb)
                have n1_ := a0_ (bB_ (g := gb1021) (o := .cells #[.int .i64 t1005, .int .i64 t1006, .int .i64 t1007] 23 (0, 0)) (by (with_reducible repeat first | apply bN_ | apply bD_ | apply bA_); exact BK1021.out) hb)
                have n2_ := a0_ (bB_ (g := gb1022) (o := .cells #[.int .i64 t1008, .int .i64 t1009, .int .i64 t1010] 23 (0, 0)) (by (with_reducible repeat first | apply bN_ | apply bD_ | apply bA_); exact BK1022.out) hb)
                have n3_ := a0_ (bB_ (g := gb1036) (o := .cells #[.int .i64 t1023, .int .i64 t1024, .int .i64 t1025] 23 (0, 0)) (by (with_reducible repeat first | apply bN_ | apply bD_ | apply bA_); exact BK1036.out) hb)
                have n4_ := a0_ (IsS62.below (by repeat (first | (with_reducible first | exact HI993.out | apply sA_ | apply sN_ | apply sD_ | refine sF_ ?_ NB993_982.out _ | refine sF_ ?_ NB993_1021.out _ | refine sF_ ?_ NB993_1022.out _ | refine sF_ ?_ NB993_1036.out _ | refine sF_ ?_ NB993_1066.out _ | refine sF_ ?_ NB993_1071.out _) | exact HI993.out)) hb)
                have n5_ := a0_ (bB_ (g := gb1066) (o := .cells #[.int .i64 t1062, .int .i64 t1063, .int .i64 t1064] 23 (0, 0)) (by (with_reducible repeat first | apply bN_ | apply bD_ | apply bA_); exact BK1066.out) hb)
                have n6_ := a0_ (bB_ (g := gb1071) (o := .cells #[.int .i64 t1067, .int .i64 t1068, .int .i64 t1069] 23 (0, 0)) (by (with_reducible repeat first | apply bN_ | apply bD_ | apply bA_); exact BK1071.out) hb)
                have n7_ := a0_ (below_step (by repeat (first | (with_reducible first | exact HB.out | apply lA_ | apply lN_ | apply lD_ | refine lS_ ?_ (sG_ HI993.out) | refine lS_ ?_ GE982.out | refine lS_ ?_ GE1021.out | refine lS_ ?_ GE1022.out | refine lS_ ?_ GE1036.out | refine lS_ ?_ GE1066.out | refine lS_ ?_ GE1071.out) | exact HB.out)) hb)
                clear BK982
                clear BK1021
                clear BK1022
                clear BK1036
                clear HI993
                clear BK1066
                clear BK1071
                clear HB
                have BK982 := n0_
                have BK1021 := n1_
                have BK1022 := n2_
                have BK1036 := n3_
                have HI993 := n4_
                have BK1066 := n5_
                have BK1071 := n6_
                have HB := n7_
                clear n0_ n1_ n2_ n3_ n4_ n5_ n6_ n7_
                (try clear hb)
                (try clear hb2)
                (try clear hk)
                (try clear hi)
                refine hK.out _ _ ⟨(bC_ BK1066.out 0).trans rfl, (bC_ BK1066.out 1).trans rfl, (bC_ BK1066.out 2).trans rfl, (bC_ BK1022.out 0).trans rfl, (bC_ BK1022.out 1).trans rfl, (bC_ BK1022.out 2).trans rfl, (bC_ BK1071.out 0).trans rfl, (bC_ BK1071.out 1).trans rfl, (bC_ BK1071.out 2).trans rfl⟩ (fun hHeld => ?_)
                clear hK K
                refine norm_ (a' := ?_) ?_ ?_
                rotate_left
                ·show Act.put _ (some 153) _ = _
                 simp only [Act.put, zA_, zB_, zC_, i64_w, i32_w]
                 rfl
                refine one_ (i := 15) (N := some 155) #[true, true, true, true, true, true, true, true, true, true, true, true, true, true, true, true, false, false, false] rfl rfl (one_of HT_.out (by kernel_rfl)) (by decide) (fun K hK => ?_)
                refine goes_ Try.func23 (by kernel_rfl) rfl #[.agg #[.int .i64 t1008, .int .i64 t1009, .int .i64 t1010]] (by rfl) rfl rfl (by (try simp only [List.map_toArray, List.map_cons, List.map_nil]); first | done | rfl) ?_
                with_reducible refine (stipendref03_Number.calls kj46 t1008 t1009 t1010 t1075 _ A138.out).mono ?_
                rintro e w144 ⟨rfl, hb⟩
                refine ⟨_, rfl, ?_⟩
                have n0_ := a0_ (bB_ (g := gb982) (o := .cells #[.int .i64 a1_0, .int .i64 a1_1, .int .i64 a1_2] 23 (0, 0)) (by (with_reducible repeat first | apply bN_ | apply bD_ | apply bA_); exact BK982.out) hb)
                have n1_ := a0_ (bB_ (g := gb1021) (o := .cells #[.int .i64 t1005, .int .i64 t1006, .int .i64 t1007] 23 (0, 0)) (by (with_reducible repeat first | apply bN_ | apply bD_ | apply bA_); exact BK1021.out) hb)
                have n2_ := a0_ (bB_ (g := gb1022) (o := .cells #[.int .i64 t1008, .int .i64 t1009, .int .i64 t1010] 23 (0, 0)) (by (with_reducible repeat first | apply bN_ | apply bD_ | apply bA_); exact BK1022.out) hb)
                have n3_ := a0_ (bB_ (g := gb1036) (o := .cells #[.int .i64 t1023, .int .i64 t1024, .int .i64 t1025] 23 (0, 0)) (by (with_reducible repeat first | apply bN_ | apply bD_ | apply bA_); exact BK1036.out) hb)
                have n4_ := a0_ (IsS62.below (by repeat (first | (with_reducible first | exact HI993.out | apply sA_ | apply sN_ | apply sD_ | refine sF_ ?_ NB993_982.out _ | refine sF_ ?_ NB993_1021.out _ | refine sF_ ?_ NB993_1022.out _ | refine sF_ ?_ NB993_1036.out _ | refine sF_ ?_ NB993_1066.out _ | refine sF_ ?_ NB993_1071.out _) | exact HI993.out)) hb)
                have n5_ := a0_ (bB_ (g := gb1066) (o := .cells #[.int .i64 t1062, .int .i64 t1063, .int .i64 t1064] 23 (0, 0)) (by (with_reducible repeat first | apply bN_ | apply bD_ | apply bA_); exact BK1066.out) hb)
                have n6_ := a0_ (bB_ (g := gb1071) (o := .cells #[.int .i64 t1067, .int .i64 t1068, .int .i64 t1069] 23 (0, 0)) (by (with_reducible repeat first | apply bN_ | apply bD_ | apply bA_); exact BK1071.out) hb)
                have n7_ := a0_ (below_step (by repeat (first | (with_reducible first | exact HB.out | apply lA_ | apply lN_ | apply lD_ | refine lS_ ?_ (sG_ HI993.out) | refine lS_ ?_ GE982.out | refine lS_ ?_ GE1021.out | refine lS_ ?_ GE1022.out | refine lS_ ?_ GE1036.out | refine lS_ ?_ GE1066.out | refine lS_ ?_ GE1071.out) | exact HB.out)) hb)
                clear BK982
                clear BK1021
                clear BK1022
                clear BK1036
                clear HI993
                clear BK1066
                clear BK1071
                clear HB
                have BK982 := n0_
                have BK1021 := n1_
                have BK1022 := n2_
                have BK1036 := n3_
                have HI993 := n4_
                have BK1066 := n5_
                have BK1071 := n6_
                have HB := n7_
                clear n0_ n1_ n2_ n3_ n4_ n5_ n6_ n7_
                (try clear hb)
                (try clear hb2)
                (try clear hk)
                (try clear hi)
                refine hK.out _ _ ⟨(bC_ BK1066.out 0).trans rfl, (bC_ BK1066.out 1).trans rfl, (bC_ BK1066.out 2).trans rfl, (bC_ BK1022.out 0).trans rfl, (bC_ BK1022.out 1).trans rfl, (bC_ BK1022.out 2).trans rfl, (bC_ BK1071.out 0).trans rfl, (bC_ BK1071.out 1).trans rfl, (bC_ BK1071.out 2).trans rfl⟩ (fun hHeld => ?_)
                clear hK K
                refine norm_ (a' := ?_) ?_ ?_
                rotate_left
                ·show Act.put _ (some 155) _ = _
                 simp only [Act.put, zA_, zB_, zC_, i64_w, i32_w]
                 rfl
                refine pure_ (i := 16) (N := some 156) (v := ?_) (a' := ?_) #[true, true, true, true, true, true, true, true, true, true, true, true, true, true, true, true, true, false, false] rfl rfl (any_of HT_.out (by kernel_rfl)) (fun _ _ _ h => h) (Or.inl ⟨by rfl, ?_⟩) ?_ ?_
                rotate_left
                ·intro w'
                 go_simp
                 with_reducible rfl
                rotate_left
                ·simp only [Act.put, zA_, zB_, zC_, i64_w, i32_w]
                 rfl
                refine pure_ (i := 17) (N := some 157) (v := ?_) (a' := ?_) #[true, true, true, true, true, true, true, true, true, true, true, true, true, true, true, true, true, true, false] rfl rfl (any_of HT_.out (by kernel_rfl)) (fun _ _ _ h => h) (Or.inl ⟨by rfl, ?_⟩) ?_ ?_
                rotate_left
                ·intro w'
                 go_simp
                 with_reducible rfl
                rotate_left
                ·simp only [Act.put, zA_, zB_, zC_, i64_w, i32_w]
                 rfl
                refine pure_ (i := 18) (N := some 158) (v := ?_) (a' := ?_) #[true, true, true, true, true, true, true, true, true, true, true, true, true, true, true, true, true, true, true] rfl rfl (any_of HT_.out (by kernel_rfl)) (fun _ _ _ h => h) (Or.inl ⟨by rfl, ?_⟩) ?_ ?_
                rotate_left
                ·intro w'
                 go_simp
                 with_reducible rfl
                rotate_left
                ·simp only [Act.put, zA_, zB_, zC_, i64_w, i32_w]
                 rfl
                refine done_ (done_of HT_.out (by kernel_rfl)) ?_
                try go_wp2
                go_meet
                case rel => exact ⟨_, (decide (t1074 ≤ t1075)), (by first | rfl | (simp; done) | (simp [*]; done)), H', ⟨by have := HK1.out; have := HJ16.out; have := HJ46.out; first | omega | exact Nat.le_refl _⟩, ⟨by (with_reducible repeat first | apply bN_ | apply bD_ | apply bA_); exact BK982.out⟩, ⟨by (with_reducible repeat first | apply bN_ | apply bD_ | apply bA_); exact BK1021.out⟩, ⟨by (with_reducible repeat first | apply bN_ | apply bD_ | apply bA_); exact BK1022.out⟩, ⟨by (with_reducible repeat first | apply bN_ | apply bD_ | apply bA_); exact BK1036.out⟩, ⟨by (with_reducible repeat first | apply bN_ | apply bD_ | apply bA_); exact BK1066.out⟩, ⟨by (with_reducible repeat first | apply bN_ | apply bD_ | apply bA_); exact BK1071.out⟩, ⟨by repeat (first | (with_reducible first | exact HI993.out | apply sA_ | apply sN_ | apply sD_ | refine sF_ ?_ NB993_982.out _ | refine sF_ ?_ NB993_1021.out _ | refine sF_ ?_ NB993_1022.out _ | refine sF_ ?_ NB993_1036.out _ | refine sF_ ?_ NB993_1066.out _ | refine sF_ ?_ NB993_1071.out _) | exact HI993.out)⟩, ⟨by repeat (first | (with_reducible first | exact HB.out | apply lA_ | apply lN_ | apply lD_ | refine lS_ ?_ (sG_ HI993.out) | refine lS_ ?_ GE982.out | refine lS_ ?_ GE1021.out | refine lS_ ?_ GE1022.out | refine lS_ ?_ GE1036.out | refine lS_ ?_ GE1066.out | refine lS_ ?_ GE1071.out) | exact HB.out)⟩⟩
               ·rw [if_neg c136] at H
                have c136b0 : decide (t1037 < 4) = false := decide_eq_false c136
                clear c136
                have H' := a0_ H
                clear H
                try go_wp2
                have n0_ : Aside0 ((((w120.setCell ⟨gb1071, 0, none⟩ (.int .i64 t1067)).setCell ⟨gb1071, 1, none⟩ (.int .i64 t1068)).setCell ⟨gb1071, 2, none⟩ (.int .i64 t1069)).heap[gb982]? = some (.cells #[.int .i64 a1_0, .int .i64 a1_1, .int .i64 a1_2] 23 (0, 0))) := ⟨by (with_reducible repeat first | apply bN_ | apply bD_ | apply bA_); refine blk_far ?_ NB982_1071.out _; (with_reducible repeat first | apply bN_ | apply bD_ | apply bA_); refine blk_far ?_ NB982_1071.out _; (with_reducible repeat first | apply bN_ | apply bD_ | apply bA_); refine blk_far ?_ NB982_1071.out _; (with_reducible repeat first | apply bN_ | apply bD_ | apply bA_); exact BK982.out⟩
                have n1_ : Aside0 ((((w120.setCell ⟨gb1071, 0, none⟩ (.int .i64 t1067)).setCell ⟨gb1071, 1, none⟩ (.int .i64 t1068)).setCell ⟨gb1071, 2, none⟩ (.int .i64 t1069)).heap[gb1021]? = some (.cells #[.int .i64 t1005, .int .i64 t1006, .int .i64 t1007] 23 (0, 0))) := ⟨by (with_reducible repeat first | apply bN_ | apply bD_ | apply bA_); refine blk_far ?_ NB1021_1071.out _; (with_reducible repeat first | apply bN_ | apply bD_ | apply bA_); refine blk_far ?_ NB1021_1071.out _; (with_reducible repeat first | apply bN_ | apply bD_ | apply bA_); refine blk_far ?_ NB1021_1071.out _; (with_reducible repeat first | apply bN_ | apply bD_ | apply bA_); exact BK1021.out⟩
                have n2_ : Aside0 ((((w120.setCell ⟨gb1071, 0, none⟩ (.int .i64 t1067)).setCell ⟨gb1071, 1, none⟩ (.int .i64 t1068)).setCell ⟨gb1071, 2, none⟩ (.int .i64 t1069)).heap[gb1022]? = some (.cells #[.int .i64 t1008, .int .i64 t1009, .int .i64 t1010] 23 (0, 0))) := ⟨by (with_reducible repeat first | apply bN_ | apply bD_ | apply bA_); refine blk_far ?_ NB1022_1071.out _; (with_reducible repeat first | apply bN_ | apply bD_ | apply bA_); refine blk_far ?_ NB1022_1071.out _; (with_reducible repeat first | apply bN_ | apply bD_ | apply bA_); refine blk_far ?_ NB1022_1071.out _; (with_reducible repeat first | apply bN_ | apply bD_ | apply bA_); exact BK1022.out⟩
                have n3_ : Aside0 ((((w120.setCell ⟨gb1071, 0, none⟩ (.int .i64 t1067)).setCell ⟨gb1071, 1, none⟩ (.int .i64 t1068)).setCell ⟨gb1071, 2, none⟩ (.int .i64 t1069)).heap[gb1036]? = some (.cells #[.int .i64 t1023, .int .i64 t1024, .int .i64 t1025] 23 (0, 0))) := ⟨by (with_reducible repeat first | apply bN_ | apply bD_ | apply bA_); refine blk_far ?_ NB1036_1071.out _; (with_reducible repeat first | apply bN_ | apply bD_ | apply bA_); refine blk_far ?_ NB1036_1071.out _; (with_reducible repeat first | apply bN_ | apply bD_ | apply bA_); refine blk_far ?_ NB1036_1071.out _; (with_reducible repeat first | apply bN_ | apply bD_ | apply bA_); exact BK1036.out⟩
                have n4_ : Aside0 ((((w120.setCell ⟨gb1071, 0, none⟩ (.int .i64 t1067)).setCell ⟨gb1071, 1, none⟩ (.int .i64 t1068)).setCell ⟨gb1071, 2, none⟩ (.int .i64 t1069)).heap[gb1066]? = some (.cells #[.int .i64 t1062, .int .i64 t1063, .int .i64 t1064] 23 (0, 0))) := ⟨by (with_reducible repeat first | apply bN_ | apply bD_ | apply bA_); refine blk_far ?_ NB1066_1071.out _; (with_reducible repeat first | apply bN_ | apply bD_ | apply bA_); refine blk_far ?_ NB1066_1071.out _; (with_reducible repeat first | apply bN_ | apply bD_ | apply bA_); refine blk_far ?_ NB1066_1071.out _; (with_reducible repeat first | apply bN_ | apply bD_ | apply bA_); exact BK1066.out⟩
                have n5_ : Aside0 ((((w120.setCell ⟨gb1071, 0, none⟩ (.int .i64 t1067)).setCell ⟨gb1071, 1, none⟩ (.int .i64 t1068)).setCell ⟨gb1071, 2, none⟩ (.int .i64 t1069)).heap[gb1071]? = some (.cells #[.int .i64 t1067, .int .i64 t1068, .int .i64 t1069] 23 (0, 0))) := ⟨by (with_reducible repeat first | apply bN_ | apply bD_ | apply bA_); refine blk_put (cs := #[.int .i64 t1067, .int .i64 t1068, .int .i64 0]) ?_ 2 _ rfl; (with_reducible repeat first | apply bN_ | apply bD_ | apply bA_); refine blk_put (cs := #[.int .i64 t1067, .int .i64 0, .int .i64 0]) ?_ 1 _ rfl; (with_reducible repeat first | apply bN_ | apply bD_ | apply bA_); refine blk_put (cs := #[.int .i64 0, .int .i64 0, .int .i64 0]) ?_ 0 _ rfl; (with_reducible repeat first | apply bN_ | apply bD_ | apply bA_); exact BK1071.out⟩
                have n6_ : Aside0 (IsS62 w (((w120.setCell ⟨gb1071, 0, none⟩ (.int .i64 t1067)).setCell ⟨gb1071, 1, none⟩ (.int .i64 t1068)).setCell ⟨gb1071, 2, none⟩ (.int .i64 t1069)) g993 t1050 t1051 t1052 t1053 t1054 t1055 t1056 t1057 t1058) := ⟨by repeat (first | (with_reducible first | exact HI993.out | apply sA_ | apply sN_ | apply sD_ | refine sF_ ?_ NB993_982.out _ | refine sF_ ?_ NB993_1021.out _ | refine sF_ ?_ NB993_1022.out _ | refine sF_ ?_ NB993_1036.out _ | refine sF_ ?_ NB993_1066.out _ | refine sF_ ?_ NB993_1071.out _) | exact HI993.out)⟩
                have n7_ : Aside0 (Below w.heap.size w (((w120.setCell ⟨gb1071, 0, none⟩ (.int .i64 t1067)).setCell ⟨gb1071, 1, none⟩ (.int .i64 t1068)).setCell ⟨gb1071, 2, none⟩ (.int .i64 t1069))) := ⟨by repeat (first | (with_reducible first | exact HB.out | apply lA_ | apply lN_ | apply lD_ | refine lS_ ?_ (sG_ HI993.out) | refine lS_ ?_ GE982.out | refine lS_ ?_ GE1021.out | refine lS_ ?_ GE1022.out | refine lS_ ?_ GE1036.out | refine lS_ ?_ GE1066.out | refine lS_ ?_ GE1071.out) | exact HB.out)⟩
                (try clear BK982)
                (try clear BK1021)
                (try clear BK1022)
                (try clear BK1036)
                (try clear BK1066)
                (try clear BK1071)
                (try clear HI993)
                (try clear HB)
                generalize (((w120.setCell ⟨gb1071, 0, none⟩ (.int .i64 t1067)).setCell ⟨gb1071, 1, none⟩ (.int .i64 t1068)).setCell ⟨gb1071, 2, none⟩ (.int .i64 t1069)) = w145 at n0_ n1_ n2_ n3_ n4_ n5_ n6_ n7_ ⊢
                have BK982 := n0_
                have BK1021 := n1_
                have BK1022 := n2_
                have BK1036 := n3_
                have BK1066 := n4_
                have BK1071 := n5_
                have HI993 := n6_
                have HB := n7_
                clear n0_ n1_ n2_ n3_ n4_ n5_ n6_ n7_
                have n0_ := a0_ (bD_ BK982.out)
                have n1_ := a0_ (bD_ BK1021.out)
                have n2_ := a0_ (bD_ BK1022.out)
                have n3_ := a0_ (bD_ BK1036.out)
                have n4_ := a0_ (bD_ BK1066.out)
                have n5_ := a0_ (bD_ BK1071.out)
                have n6_ := a0_ (sD_ HI993.out)
                have n7_ := a0_ (lD_ HB.out)
                clear BK982
                clear BK1021
                clear BK1022
                clear BK1036
                clear BK1066
                clear BK1071
                clear HI993
                clear HB
                have BK982 := n0_
                have BK1021 := n1_
                have BK1022 := n2_
                have BK1036 := n3_
                have BK1066 := n4_
                have BK1071 := n5_
                have HI993 := n6_
                have HB := n7_
                clear n0_ n1_ n2_ n3_ n4_ n5_ n6_ n7_
                refine start_ (n := 19) (S := fun w' => w'.cell? ⟨gb1066, 0, none⟩ = some (.int .i64 t1062) ∧ w'.cell? ⟨gb1066, 1, none⟩ = some (.int .i64 t1063) ∧ w'.cell? ⟨gb1066, 2, none⟩ = some (.int .i64 t1064) ∧ w'.cell? ⟨gb1022, 0, none⟩ = some (.int .i64 t1008) ∧ w'.cell? ⟨gb1022, 1, none⟩ = some (.int .i64 t1009) ∧ w'.cell? ⟨gb1022, 2, none⟩ = some (.int .i64 t1010)) (ds := []) #[false, false, false, false, false, false, false, false, false, false, false, false, false, false, false, false, false, false, false] (by kernel_rfl) rfl rfl ⟨(bC_ BK1066.out 0).trans rfl, (bC_ BK1066.out 1).trans rfl, (bC_ BK1066.out 2).trans rfl, (bC_ BK1022.out 0).trans rfl, (bC_ BK1022.out 1).trans rfl, (bC_ BK1022.out 2).trans rfl⟩ (fun hHeld => ?_); refine with_tabW stipendlaw04_PeriodPays.tab20 stipendlaw04_PeriodPays.bits20 (fun HT_ HW_ => ?_)
                generalize w145.drew = w146 at BK982 BK1021 BK1022 BK1036 BK1066 BK1071 HI993 HB hHeld ⊢
                refine take_ (i := 0) (N := some 140) (v := ?_) (a' := ?_) #[true, false, false, false, false, false, false, false, false, false, false, false, false, false, false, false, false, false, false] rfl rfl (take_ofW HT_.out HW_.out (by kernel_rfl)) (fun _ _ _ h => h) (Or.inl ⟨by rfl, ?_⟩) hHeld ?_ ?_
                rotate_left
                ·rintro w' ⟨s0, s1, s2, s3, s4, s5⟩
                 go_simp
                 with_reducible rfl
                rotate_left
                ·simp only [Act.put, zA_, zB_, zC_, i64_w, i32_w]
                 rfl
                refine take_ (i := 2) (N := some 142) (v := ?_) (a' := ?_) #[true, false, true, false, false, false, false, false, false, false, false, false, false, false, false, false, false, false, false] rfl rfl (take_ofW HT_.out HW_.out (by kernel_rfl)) (fun _ _ _ h => h) (Or.inl ⟨by rfl, ?_⟩) hHeld ?_ ?_
                rotate_left
                ·rintro w' ⟨s0, s1, s2, s3, s4, s5⟩
                 go_simp
                 with_reducible rfl
                rotate_left
                ·simp only [Act.put, zA_, zB_, zC_, i64_w, i32_w]
                 rfl
                refine one_ (i := 1) (N := some 141) #[true, true, true, false, false, false, false, false, false, false, false, false, false, false, false, false, false, false, false] rfl rfl (one_of HT_.out (by kernel_rfl)) (by decide) (fun K hK => ?_)
                refine goes_ Try.func23 (by kernel_rfl) rfl #[.agg #[.int .i64 t1062, .int .i64 t1063, .int .i64 t1064]] (by rfl) rfl rfl (by (try simp only [List.map_toArray, List.map_cons, List.map_nil]); first | done | rfl) ?_
                with_reducible refine (stipendref03_Number.calls kj46 t1062 t1063 t1064 t1072 _ A128.out).mono ?_
                rintro e w147 ⟨rfl, hb⟩
                refine ⟨_, rfl, ?_⟩
                have n0_ := a0_ (bB_ (g := gb982) (o := .cells #[.int .i64 a1_0, .int .i64 a1_1, .int .i64 a1_2] 23 (0, 0)) (by (with_reducible repeat first | apply bN_ | apply bD_ | apply bA_); exact BK982.out) hb)
                have n1_ := a0_ (bB_ (g := gb1021) (o := .cells #[.int .i64 t1005, .int .i64 t1006, .int .i64 t1007] 23 (0, 0)) (by (with_reducible repeat first | apply bN_ | apply bD_ | apply bA_); exact BK1021.out) hb)
                have n2_ := a0_ (bB_ (g := gb1022) (o := .cells #[.int .i64 t1008, .int .i64 t1009, .int .i64 t1010] 23 (0, 0)) (by (with_reducible repeat first | apply bN_ | apply bD_ | apply bA_); exact BK1022.out) hb)
                have n3_ := a0_ (bB_ (g := gb1036) (o := .cells #[.int .i64 t1023, .int .i64 t1024, .int .i64 t1025] 23 (0, 0)) (by (with_reducible repeat first | apply bN_ | apply bD_ | apply bA_); exact BK1036.out) hb)
                have n4_ := a0_ (IsS62.below (by repeat (first | (with_reducible first | exact HI993.out | apply sA_ | apply sN_ | apply sD_ | refine sF_ ?_ NB993_982.out _ | refine sF_ ?_ NB993_1021.out _ | refine sF_ ?_ NB993_1022.out _ | refine sF_ ?_ NB993_1036.out _ | refine sF_ ?_ NB993_1066.out _ | refine sF_ ?_ NB993_1071.out _) | exact HI993.out)) hb)
                have n5_ := a0_ (bB_ (g := gb1066) (o := .cells #[.int .i64 t1062, .int .i64 t1063, .int .i64 t1064] 23 (0, 0)) (by (with_reducible repeat first | apply bN_ | apply bD_ | apply bA_); exact BK1066.out) hb)
                have n6_ := a0_ (bB_ (g := gb1071) (o := .cells #[.int .i64 t1067, .int .i64 t1068, .int .i64 t1069] 23 (0, 0)) (by (with_reducible repeat first | apply bN_ | apply bD_ | apply bA_); exact BK1071.out) hb)
                have n7_ := a0_ (below_step (by repeat (first | (with_reducible first | exact HB.out | apply lA_ | apply lN_ | apply lD_ | refine lS_ ?_ (sG_ HI993.out) | refine lS_ ?_ GE982.out | refine lS_ ?_ GE1021.out | refine lS_ ?_ GE1022.out | refine lS_ ?_ GE1036.out | refine lS_ ?_ GE1066.out | refine lS_ ?_ GE1071.out) | exact HB.out)) hb)
                clear BK982
                clear BK1021
                clear BK1022
                clear BK1036
                clear HI993
                clear BK1066
                clear BK1071
                clear HB
                have BK982 := n0_
                have BK1021 := n1_
                have BK1022 := n2_
                have BK1036 := n3_
                have HI993 := n4_
                have BK1066 := n5_
                have BK1071 := n6_
                have HB := n7_
                clear n0_ n1_ n2_ n3_ n4_ n5_ n6_ n7_
                (try clear hb)
                (try clear hb2)
                (try clear hk)
                (try clear hi)
                refine hK.out _ _ ⟨(bC_ BK1066.out 0).trans rfl, (bC_ BK1066.out 1).trans rfl, (bC_ BK1066.out 2).trans rfl, (bC_ BK1022.out 0).trans rfl, (bC_ BK1022.out 1).trans rfl, (bC_ BK1022.out 2).trans rfl⟩ (fun hHeld => ?_)
                clear hK K
                refine norm_ (a' := ?_) ?_ ?_
                rotate_left
                ·show Act.put _ (some 141) _ = _
                 simp only [Act.put, zA_, zB_, zC_, i64_w, i32_w]
                 rfl
                refine one_ (i := 3) (N := some 143) #[true, true, true, true, false, false, false, false, false, false, false, false, false, false, false, false, false, false, false] rfl rfl (one_of HT_.out (by kernel_rfl)) (by decide) (fun K hK => ?_)
                refine goes_ Try.func23 (by kernel_rfl) rfl #[.agg #[.int .i64 t1008, .int .i64 t1009, .int .i64 t1010]] (by rfl) rfl rfl (by (try simp only [List.map_toArray, List.map_cons, List.map_nil]); first | done | rfl) ?_
                with_reducible refine (stipendref03_Number.calls kj46 t1008 t1009 t1010 t1073 _ A129.out).mono ?_
                rintro e w148 ⟨rfl, hb⟩
                refine ⟨_, rfl, ?_⟩
                have n0_ := a0_ (bB_ (g := gb982) (o := .cells #[.int .i64 a1_0, .int .i64 a1_1, .int .i64 a1_2] 23 (0, 0)) (by (with_reducible repeat first | apply bN_ | apply bD_ | apply bA_); exact BK982.out) hb)
                have n1_ := a0_ (bB_ (g := gb1021) (o := .cells #[.int .i64 t1005, .int .i64 t1006, .int .i64 t1007] 23 (0, 0)) (by (with_reducible repeat first | apply bN_ | apply bD_ | apply bA_); exact BK1021.out) hb)
                have n2_ := a0_ (bB_ (g := gb1022) (o := .cells #[.int .i64 t1008, .int .i64 t1009, .int .i64 t1010] 23 (0, 0)) (by (with_reducible repeat first | apply bN_ | apply bD_ | apply bA_); exact BK1022.out) hb)
                have n3_ := a0_ (bB_ (g := gb1036) (o := .cells #[.int .i64 t1023, .int .i64 t1024, .int .i64 t1025] 23 (0, 0)) (by (with_reducible repeat first | apply bN_ | apply bD_ | apply bA_); exact BK1036.out) hb)
                have n4_ := a0_ (IsS62.below (by repeat (first | (with_reducible first | exact HI993.out | apply sA_ | apply sN_ | apply sD_ | refine sF_ ?_ NB993_982.out _ | refine sF_ ?_ NB993_1021.out _ | refine sF_ ?_ NB993_1022.out _ | refine sF_ ?_ NB993_1036.out _ | refine sF_ ?_ NB993_1066.out _ | refine sF_ ?_ NB993_1071.out _) | exact HI993.out)) hb)
                have n5_ := a0_ (bB_ (g := gb1066) (o := .cells #[.int .i64 t1062, .int .i64 t1063, .int .i64 t1064] 23 (0, 0)) (by (with_reducible repeat first | apply bN_ | apply bD_ | apply bA_); exact BK1066.out) hb)
                have n6_ := a0_ (bB_ (g := gb1071) (o := .cells #[.int .i64 t1067, .int .i64 t1068, .int .i64 t1069] 23 (0, 0)) (by (with_reducible repeat first | apply bN_ | apply bD_ | apply bA_); exact BK1071.out) hb)
                have n7_ := a0_ (below_step (by repeat (first | (with_reducible first | exact HB.out | apply lA_ | apply lN_ | apply lD_ | refine lS_ ?_ (sG_ HI993.out) | refine lS_ ?_ GE982.out | refine lS_ ?_ GE1021.out | refine lS_ ?_ GE1022.out | refine lS_ ?_ GE1036.out | refine lS_ ?_ GE1066.out | refine lS_ ?_ GE1071.out) | exact HB.out)) hb)
                clear BK982
                clear BK1021
                clear BK1022
                clear BK1036
                clear HI993
                clear BK1066
                clear BK1071
                clear HB
                have BK982 := n0_
                have BK1021 := n1_
                have BK1022 := n2_
                have BK1036 := n3_
                have HI993 := n4_
                have BK1066 := n5_
                have BK1071 := n6_
                have HB := n7_
                clear n0_ n1_ n2_ n3_ n4_ n5_ n6_ n7_
                (try clear hb)
                (try clear hb2)
                (try clear hk)
                (try clear hi)
                refine hK.out _ _ ⟨(bC_ BK1066.out 0).trans rfl, (bC_ BK1066.out 1).trans rfl, (bC_ BK1066.out 2).trans rfl, (bC_ BK1022.out 0).trans rfl, (bC_ BK1022.out 1).trans rfl, (bC_ BK1022.out 2).trans rfl⟩ (fun hHeld => ?_)
                clear hK K
                refine norm_ (a' := ?_) ?_ ?_
                rotate_left
                ·show Act.put _ (some 143) _ = _
                 simp only [Act.put, zA_, zB_, zC_, i64_w, i32_w]
                 rfl
                refine pure_ (i := 4) (N := some 144) (v := ?_) (a' := ?_) #[true, true, true, true, true, false, false, false, false, false, false, false, false, false, false, false, false, false, false] rfl rfl (any_of HT_.out (by kernel_rfl)) (fun _ _ _ h => h) (Or.inl ⟨by rfl, ?_⟩) ?_ ?_
                rotate_left
                ·intro w'
                 go_simp
                 with_reducible rfl
                rotate_left
                ·simp only [Act.put, zA_, zB_, zC_, i64_w, i32_w]
                 rfl
                refine pure_ (i := 5) (N := some 145) (v := ?_) (a' := ?_) #[true, true, true, true, true, true, false, false, false, false, false, false, false, false, false, false, false, false, false] rfl rfl (any_of HT_.out (by kernel_rfl)) (fun _ _ _ h => h) (Or.inl ⟨by rfl, ?_⟩) ?_ ?_
                rotate_left
                ·intro w'
                 go_simp
                 with_reducible rfl
                rotate_left
                ·simp only [Act.put, zA_, zB_, zC_, i64_w, i32_w]
                 rfl
                refine pure_ (i := 6) (N := some 146) (v := ?_) (a' := ?_) #[true, true, true, true, true, true, true, false, false, false, false, false, false, false, false, false, false, false, false] rfl rfl (any_of HT_.out (by kernel_rfl)) (fun _ _ _ h => h) (Or.inl ⟨by rfl, ?_⟩) ?_ ?_
                rotate_left
                ·intro w'
                 go_simp
                 with_reducible rfl
                rotate_left
                ·simp only [Act.put, zA_, zB_, zC_, i64_w, i32_w]
                 rfl
                refine pure_ (i := 7) (N := some 147) (v := ?_) (a' := ?_) #[true, true, true, true, true, true, true, true, false, false, false, false, false, false, false, false, false, false, false] rfl rfl (any_of HT_.out (by kernel_rfl)) (fun _ _ _ h => h) (Or.inl ⟨by rfl, ?_⟩) ?_ ?_
                rotate_left
                ·intro w'
                 go_simp
                 with_reducible rfl
                rotate_left
                ·simp only [Act.put, zA_, zB_, zC_, i64_w, i32_w]
                 rfl
                refine pure_ (i := 8) (N := some 148) (v := ?_) (a' := ?_) #[true, true, true, true, true, true, true, true, true, false, false, false, false, false, false, false, false, false, false] rfl rfl (any_of HT_.out (by kernel_rfl)) (fun _ _ _ h => h) (Or.inl ⟨by rfl, ?_⟩) ?_ ?_
                rotate_left
                ·intro w'
                 go_simp
                 with_reducible rfl
                rotate_left
                ·simp only [Act.put, zA_, zB_, zC_, i64_w, i32_w]
                 rfl
                refine pure_ (i := 9) (N := some 149) (v := ?_) (a' := ?_) #[true, true, true, true, true, true, true, true, true, true, false, false, false, false, false, false, false, false, false] rfl rfl (any_of HT_.out (by kernel_rfl)) (fun _ _ _ h => h) (Or.inl ⟨by rfl, ?_⟩) ?_ ?_
                rotate_left
                ·intro w'
                 go_simp
                 with_reducible rfl
                rotate_left
                ·simp only [Act.put, zA_, zB_, zC_, i64_w, i32_w]
                 rfl
                refine pure_ (i := 10) (N := some 150) (v := ?_) (a' := ?_) #[true, true, true, true, true, true, true, true, true, true, true, false, false, false, false, false, false, false, false] rfl rfl (any_of HT_.out (by kernel_rfl)) (fun _ _ _ h => h) (Or.inl ⟨by rfl, ?_⟩) ?_ ?_
                rotate_left
                ·intro w'
                 go_simp
                 with_reducible rfl
                rotate_left
                ·simp only [Act.put, zA_, zB_, zC_, i64_w, i32_w]
                 rfl
                refine pure_ (i := 11) (N := some 151) (v := ?_) (a' := ?_) #[true, true, true, true, true, true, true, true, true, true, true, true, false, false, false, false, false, false, false] rfl rfl (any_of HT_.out (by kernel_rfl)) (fun _ _ _ h => h) (Or.inl ⟨by rfl, ?_⟩) ?_ ?_
                rotate_left
                ·intro w'
                 go_simp
                 with_reducible rfl
                rotate_left
                ·simp only [Act.put, zA_, zB_, zC_, i64_w, i32_w]
                 rfl
                refine pure_ (i := 12) (N := some 152) (v := undef) (a' := ?_) #[true, true, true, true, true, true, true, true, true, true, true, true, true, false, false, false, false, false, false] rfl rfl (any_of HT_.out (by kernel_rfl)) (fun _ _ _ h => h) (Or.inr ⟨by rfl, rfl⟩) ?_ ?_
                rotate_left
                ·simp only [Act.put, zA_, zB_, zC_, i64_w, i32_w]
                 rfl
                refine pure_ (i := 13) (N := some 153) (v := undef) (a' := ?_) #[true, true, true, true, true, true, true, true, true, true, true, true, true, true, false, false, false, false, false] rfl rfl (any_of HT_.out (by kernel_rfl)) (fun _ _ _ h => h) (Or.inr ⟨by rfl, rfl⟩) ?_ ?_
                rotate_left
                ·simp only [Act.put, zA_, zB_, zC_, i64_w, i32_w]
                 rfl
                refine pure_ (i := 14) (N := some 154) (v := undef) (a' := ?_) #[true, true, true, true, true, true, true, true, true, true, true, true, true, true, true, false, false, false, false] rfl rfl (any_of HT_.out (by kernel_rfl)) (fun _ _ _ h => h) (Or.inr ⟨by rfl, rfl⟩) ?_ ?_
                rotate_left
                ·simp only [Act.put, zA_, zB_, zC_, i64_w, i32_w]
                 rfl
                refine pure_ (i := 15) (N := some 155) (v := undef) (a' := ?_) #[true, true, true, true, true, true, true, true, true, true, true, true, true, true, true, true, false, false, false] rfl rfl (any_of HT_.out (by kernel_rfl)) (fun _ _ _ h => h) (Or.inr ⟨by rfl, rfl⟩) ?_ ?_
                rotate_left
                ·simp only [Act.put, zA_, zB_, zC_, i64_w, i32_w]
                 rfl
                refine pure_ (i := 16) (N := some 156) (v := undef) (a' := ?_) #[true, true, true, true, true, true, true, true, true, true, true, true, true, true, true, true, true, false, false] rfl rfl (any_of HT_.out (by kernel_rfl)) (fun _ _ _ h => h) (Or.inr ⟨by rfl, rfl⟩) ?_ ?_
                rotate_left
                ·simp only [Act.put, zA_, zB_, zC_, i64_w, i32_w]
                 rfl
                refine pure_ (i := 17) (N := some 157) (v := ?_) (a' := ?_) #[true, true, true, true, true, true, true, true, true, true, true, true, true, true, true, true, true, true, false] rfl rfl (any_of HT_.out (by kernel_rfl)) (fun _ _ _ h => h) (Or.inl ⟨by rfl, ?_⟩) ?_ ?_
                rotate_left
                ·intro w'
                 go_simp
                 with_reducible rfl
                rotate_left
                ·simp only [Act.put, zA_, zB_, zC_, i64_w, i32_w]
                 rfl
                refine pure_ (i := 18) (N := some 158) (v := ?_) (a' := ?_) #[true, true, true, true, true, true, true, true, true, true, true, true, true, true, true, true, true, true, true] rfl rfl (any_of HT_.out (by kernel_rfl)) (fun _ _ _ h => h) (Or.inl ⟨by rfl, ?_⟩) ?_ ?_
                rotate_left
                ·intro w'
                 go_simp
                 with_reducible rfl
                rotate_left
                ·simp only [Act.put, zA_, zB_, zC_, i64_w, i32_w]
                 rfl
                refine done_ (done_of HT_.out (by kernel_rfl)) ?_
                try go_wp2
                go_meet
                case rel => exact ⟨_, (false), (by first | rfl | (simp; done) | (simp [*]; done)), H', ⟨by have := HK1.out; have := HJ16.out; have := HJ46.out; first | omega | exact Nat.le_refl _⟩, ⟨by (with_reducible repeat first | apply bN_ | apply bD_ | apply bA_); exact BK982.out⟩, ⟨by (with_reducible repeat first | apply bN_ | apply bD_ | apply bA_); exact BK1021.out⟩, ⟨by (with_reducible repeat first | apply bN_ | apply bD_ | apply bA_); exact BK1022.out⟩, ⟨by (with_reducible repeat first | apply bN_ | apply bD_ | apply bA_); exact BK1036.out⟩, ⟨by (with_reducible repeat first | apply bN_ | apply bD_ | apply bA_); exact BK1066.out⟩, ⟨by (with_reducible repeat first | apply bN_ | apply bD_ | apply bA_); exact BK1071.out⟩, ⟨by repeat (first | (with_reducible first | exact HI993.out | apply sA_ | apply sN_ | apply sD_ | refine sF_ ?_ NB993_982.out _ | refine sF_ ?_ NB993_1021.out _ | refine sF_ ?_ NB993_1022.out _ | refine sF_ ?_ NB993_1036.out _ | refine sF_ ?_ NB993_1066.out _ | refine sF_ ?_ NB993_1071.out _) | exact HI993.out)⟩, ⟨by repeat (first | (with_reducible first | exact HB.out | apply lA_ | apply lN_ | apply lD_ | refine lS_ ?_ (sG_ HI993.out) | refine lS_ ?_ GE982.out | refine lS_ ?_ GE1021.out | refine lS_ ?_ GE1022.out | refine lS_ ?_ GE1036.out | refine lS_ ?_ GE1066.out | refine lS_ ?_ GE1071.out) | exact HB.out)⟩⟩
              ·replace c135 := Bool.eq_false_iff.mpr c135
               subst c135
               have H1 : (stipendlaw04_PeriodPays.j3 kj46 x7_1 x9_1 t1037 t1048 false a1_0 a1_1 a1_2 t1050 t1051 t1052 t1053 t1054 t1055 t1056 t1057 t1058) = some r := by rw [if_neg (show ¬ (false = true) by decide)] at H; exact H
               clear H
               have H := H1
               clear H1
               have H' := a0_ H
               clear H
               try go_wp2
               have n0_ : Aside0 ((((w120.setCell ⟨gb1071, 0, none⟩ (.int .i64 t1067)).setCell ⟨gb1071, 1, none⟩ (.int .i64 t1068)).setCell ⟨gb1071, 2, none⟩ (.int .i64 t1069)).heap[gb982]? = some (.cells #[.int .i64 a1_0, .int .i64 a1_1, .int .i64 a1_2] 23 (0, 0))) := ⟨by (with_reducible repeat first | apply bN_ | apply bD_ | apply bA_); refine blk_far ?_ NB982_1071.out _; (with_reducible repeat first | apply bN_ | apply bD_ | apply bA_); refine blk_far ?_ NB982_1071.out _; (with_reducible repeat first | apply bN_ | apply bD_ | apply bA_); refine blk_far ?_ NB982_1071.out _; (with_reducible repeat first | apply bN_ | apply bD_ | apply bA_); exact BK982.out⟩
               have n1_ : Aside0 ((((w120.setCell ⟨gb1071, 0, none⟩ (.int .i64 t1067)).setCell ⟨gb1071, 1, none⟩ (.int .i64 t1068)).setCell ⟨gb1071, 2, none⟩ (.int .i64 t1069)).heap[gb1021]? = some (.cells #[.int .i64 t1005, .int .i64 t1006, .int .i64 t1007] 23 (0, 0))) := ⟨by (with_reducible repeat first | apply bN_ | apply bD_ | apply bA_); refine blk_far ?_ NB1021_1071.out _; (with_reducible repeat first | apply bN_ | apply bD_ | apply bA_); refine blk_far ?_ NB1021_1071.out _; (with_reducible repeat first | apply bN_ | apply bD_ | apply bA_); refine blk_far ?_ NB1021_1071.out _; (with_reducible repeat first | apply bN_ | apply bD_ | apply bA_); exact BK1021.out⟩
               have n2_ : Aside0 ((((w120.setCell ⟨gb1071, 0, none⟩ (.int .i64 t1067)).setCell ⟨gb1071, 1, none⟩ (.int .i64 t1068)).setCell ⟨gb1071, 2, none⟩ (.int .i64 t1069)).heap[gb1022]? = some (.cells #[.int .i64 t1008, .int .i64 t1009, .int .i64 t1010] 23 (0, 0))) := ⟨by (with_reducible repeat first | apply bN_ | apply bD_ | apply bA_); refine blk_far ?_ NB1022_1071.out _; (with_reducible repeat first | apply bN_ | apply bD_ | apply bA_); refine blk_far ?_ NB1022_1071.out _; (with_reducible repeat first | apply bN_ | apply bD_ | apply bA_); refine blk_far ?_ NB1022_1071.out _; (with_reducible repeat first | apply bN_ | apply bD_ | apply bA_); exact BK1022.out⟩
               have n3_ : Aside0 ((((w120.setCell ⟨gb1071, 0, none⟩ (.int .i64 t1067)).setCell ⟨gb1071, 1, none⟩ (.int .i64 t1068)).setCell ⟨gb1071, 2, none⟩ (.int .i64 t1069)).heap[gb1036]? = some (.cells #[.int .i64 t1023, .int .i64 t1024, .int .i64 t1025] 23 (0, 0))) := ⟨by (with_reducible repeat first | apply bN_ | apply bD_ | apply bA_); refine blk_far ?_ NB1036_1071.out _; (with_reducible repeat first | apply bN_ | apply bD_ | apply bA_); refine blk_far ?_ NB1036_1071.out _; (with_reducible repeat first | apply bN_ | apply bD_ | apply bA_); refine blk_far ?_ NB1036_1071.out _; (with_reducible repeat first | apply bN_ | apply bD_ | apply bA_); exact BK1036.out⟩
               have n4_ : Aside0 ((((w120.setCell ⟨gb1071, 0, none⟩ (.int .i64 t1067)).setCell ⟨gb1071, 1, none⟩ (.int .i64 t1068)).setCell ⟨gb1071, 2, none⟩ (.int .i64 t1069)).heap[gb1066]? = some (.cells #[.int .i64 t1062, .int .i64 t1063, .int .i64 t1064] 23 (0, 0))) := ⟨by (with_reducible repeat first | apply bN_ | apply bD_ | apply bA_); refine blk_far ?_ NB1066_1071.out _; (with_reducible repeat first | apply bN_ | apply bD_ | apply bA_); refine blk_far ?_ NB1066_1071.out _; (with_reducible repeat first | apply bN_ | apply bD_ | apply bA_); refine blk_far ?_ NB1066_1071.out _; (with_reducible repeat first | apply bN_ | apply bD_ | apply bA_); exact BK1066.out⟩
               have n5_ : Aside0 ((((w120.setCell ⟨gb1071, 0, none⟩ (.int .i64 t1067)).setCell ⟨gb1071, 1, none⟩ (.int .i64 t1068)).setCell ⟨gb1071, 2, none⟩ (.int .i64 t1069)).heap[gb1071]? = some (.cells #[.int .i64 t1067, .int .i64 t1068, .int .i64 t1069] 23 (0, 0))) := ⟨by (with_reducible repeat first | apply bN_ | apply bD_ | apply bA_); refine blk_put (cs := #[.int .i64 t1067, .int .i64 t1068, .int .i64 0]) ?_ 2 _ rfl; (with_reducible repeat first | apply bN_ | apply bD_ | apply bA_); refine blk_put (cs := #[.int .i64 t1067, .int .i64 0, .int .i64 0]) ?_ 1 _ rfl; (with_reducible repeat first | apply bN_ | apply bD_ | apply bA_); refine blk_put (cs := #[.int .i64 0, .int .i64 0, .int .i64 0]) ?_ 0 _ rfl; (with_reducible repeat first | apply bN_ | apply bD_ | apply bA_); exact BK1071.out⟩
               have n6_ : Aside0 (IsS62 w (((w120.setCell ⟨gb1071, 0, none⟩ (.int .i64 t1067)).setCell ⟨gb1071, 1, none⟩ (.int .i64 t1068)).setCell ⟨gb1071, 2, none⟩ (.int .i64 t1069)) g993 t1050 t1051 t1052 t1053 t1054 t1055 t1056 t1057 t1058) := ⟨by repeat (first | (with_reducible first | exact HI993.out | apply sA_ | apply sN_ | apply sD_ | refine sF_ ?_ NB993_982.out _ | refine sF_ ?_ NB993_1021.out _ | refine sF_ ?_ NB993_1022.out _ | refine sF_ ?_ NB993_1036.out _ | refine sF_ ?_ NB993_1066.out _ | refine sF_ ?_ NB993_1071.out _) | exact HI993.out)⟩
               have n7_ : Aside0 (Below w.heap.size w (((w120.setCell ⟨gb1071, 0, none⟩ (.int .i64 t1067)).setCell ⟨gb1071, 1, none⟩ (.int .i64 t1068)).setCell ⟨gb1071, 2, none⟩ (.int .i64 t1069))) := ⟨by repeat (first | (with_reducible first | exact HB.out | apply lA_ | apply lN_ | apply lD_ | refine lS_ ?_ (sG_ HI993.out) | refine lS_ ?_ GE982.out | refine lS_ ?_ GE1021.out | refine lS_ ?_ GE1022.out | refine lS_ ?_ GE1036.out | refine lS_ ?_ GE1066.out | refine lS_ ?_ GE1071.out) | exact HB.out)⟩
               (try clear BK982)
               (try clear BK1021)
               (try clear BK1022)
               (try clear BK1036)
               (try clear BK1066)
               (try clear BK1071)
               (try clear HI993)
               (try clear HB)
               generalize (((w120.setCell ⟨gb1071, 0, none⟩ (.int .i64 t1067)).setCell ⟨gb1071, 1, none⟩ (.int .i64 t1068)).setCell ⟨gb1071, 2, none⟩ (.int .i64 t1069)) = w149 at n0_ n1_ n2_ n3_ n4_ n5_ n6_ n7_ ⊢
               have BK982 := n0_
               have BK1021 := n1_
               have BK1022 := n2_
               have BK1036 := n3_
               have BK1066 := n4_
               have BK1071 := n5_
               have HI993 := n6_
               have HB := n7_
               clear n0_ n1_ n2_ n3_ n4_ n5_ n6_ n7_
               have n0_ := a0_ (bD_ BK982.out)
               have n1_ := a0_ (bD_ BK1021.out)
               have n2_ := a0_ (bD_ BK1022.out)
               have n3_ := a0_ (bD_ BK1036.out)
               have n4_ := a0_ (bD_ BK1066.out)
               have n5_ := a0_ (bD_ BK1071.out)
               have n6_ := a0_ (sD_ HI993.out)
               have n7_ := a0_ (lD_ HB.out)
               clear BK982
               clear BK1021
               clear BK1022
               clear BK1036
               clear BK1066
               clear BK1071
               clear HI993
               clear HB
               have BK982 := n0_
               have BK1021 := n1_
               have BK1022 := n2_
               have BK1036 := n3_
               have BK1066 := n4_
               have BK1071 := n5_
               have HI993 := n6_
               have HB := n7_
               clear n0_ n1_ n2_ n3_ n4_ n5_ n6_ n7_
               refine start_ (n := 19) (S := fun w' => w'.cell? ⟨gb1066, 0, none⟩ = some (.int .i64 t1062) ∧ w'.cell? ⟨gb1066, 1, none⟩ = some (.int .i64 t1063) ∧ w'.cell? ⟨gb1066, 2, none⟩ = some (.int .i64 t1064) ∧ w'.cell? ⟨gb1022, 0, none⟩ = some (.int .i64 t1008) ∧ w'.cell? ⟨gb1022, 1, none⟩ = some (.int .i64 t1009) ∧ w'.cell? ⟨gb1022, 2, none⟩ = some (.int .i64 t1010)) (ds := []) #[false, false, false, false, false, false, false, false, false, false, false, false, false, false, false, false, false, false, false] (by kernel_rfl) rfl rfl ⟨(bC_ BK1066.out 0).trans rfl, (bC_ BK1066.out 1).trans rfl, (bC_ BK1066.out 2).trans rfl, (bC_ BK1022.out 0).trans rfl, (bC_ BK1022.out 1).trans rfl, (bC_ BK1022.out 2).trans rfl⟩ (fun hHeld => ?_); refine with_tabW stipendlaw04_PeriodPays.tab20 stipendlaw04_PeriodPays.bits20 (fun HT_ HW_ => ?_)
               generalize w149.drew = w150 at BK982 BK1021 BK1022 BK1036 BK1066 BK1071 HI993 HB hHeld ⊢
               refine take_ (i := 0) (N := some 140) (v := ?_) (a' := ?_) #[true, false, false, false, false, false, false, false, false, false, false, false, false, false, false, false, false, false, false] rfl rfl (take_ofW HT_.out HW_.out (by kernel_rfl)) (fun _ _ _ h => h) (Or.inl ⟨by rfl, ?_⟩) hHeld ?_ ?_
               rotate_left
               ·rintro w' ⟨s0, s1, s2, s3, s4, s5⟩
                go_simp
                with_reducible rfl
               rotate_left
               ·simp only [Act.put, zA_, zB_, zC_, i64_w, i32_w]
                rfl
               refine take_ (i := 2) (N := some 142) (v := ?_) (a' := ?_) #[true, false, true, false, false, false, false, false, false, false, false, false, false, false, false, false, false, false, false] rfl rfl (take_ofW HT_.out HW_.out (by kernel_rfl)) (fun _ _ _ h => h) (Or.inl ⟨by rfl, ?_⟩) hHeld ?_ ?_
               rotate_left
               ·rintro w' ⟨s0, s1, s2, s3, s4, s5⟩
                go_simp
                with_reducible rfl
               rotate_left
               ·simp only [Act.put, zA_, zB_, zC_, i64_w, i32_w]
                rfl
               refine one_ (i := 1) (N := some 141) #[true, true, true, false, false, false, false, false, false, false, false, false, false, false, false, false, false, false, false] rfl rfl (one_of HT_.out (by kernel_rfl)) (by decide) (fun K hK => ?_)
               refine goes_ Try.func23 (by kernel_rfl) rfl #[.agg #[.int .i64 t1062, .int .i64 t1063, .int .i64 t1064]] (by rfl) rfl rfl (by (try simp only [List.map_toArray, List.map_cons, List.map_nil]); first | done | rfl) ?_
               with_reducible refine (stipendref03_Number.calls kj46 t1062 t1063 t1064 t1072 _ A128.out).mono ?_
               rintro e w151 ⟨rfl, hb⟩
               refine ⟨_, rfl, ?_⟩
               have n0_ := a0_ (bB_ (g := gb982) (o := .cells #[.int .i64 a1_0, .int .i64 a1_1, .int .i64 a1_2] 23 (0, 0)) (by (with_reducible repeat first | apply bN_ | apply bD_ | apply bA_); exact BK982.out) hb)
               have n1_ := a0_ (bB_ (g := gb1021) (o := .cells #[.int .i64 t1005, .int .i64 t1006, .int .i64 t1007] 23 (0, 0)) (by (with_reducible repeat first | apply bN_ | apply bD_ | apply bA_); exact BK1021.out) hb)
               have n2_ := a0_ (bB_ (g := gb1022) (o := .cells #[.int .i64 t1008, .int .i64 t1009, .int .i64 t1010] 23 (0, 0)) (by (with_reducible repeat first | apply bN_ | apply bD_ | apply bA_); exact BK1022.out) hb)
               have n3_ := a0_ (bB_ (g := gb1036) (o := .cells #[.int .i64 t1023, .int .i64 t1024, .int .i64 t1025] 23 (0, 0)) (by (with_reducible repeat first | apply bN_ | apply bD_ | apply bA_); exact BK1036.out) hb)
               have n4_ := a0_ (IsS62.below (by repeat (first | (with_reducible first | exact HI993.out | apply sA_ | apply sN_ | apply sD_ | refine sF_ ?_ NB993_982.out _ | refine sF_ ?_ NB993_1021.out _ | refine sF_ ?_ NB993_1022.out _ | refine sF_ ?_ NB993_1036.out _ | refine sF_ ?_ NB993_1066.out _ | refine sF_ ?_ NB993_1071.out _) | exact HI993.out)) hb)
               have n5_ := a0_ (bB_ (g := gb1066) (o := .cells #[.int .i64 t1062, .int .i64 t1063, .int .i64 t1064] 23 (0, 0)) (by (with_reducible repeat first | apply bN_ | apply bD_ | apply bA_); exact BK1066.out) hb)
               have n6_ := a0_ (bB_ (g := gb1071) (o := .cells #[.int .i64 t1067, .int .i64 t1068, .int .i64 t1069] 23 (0, 0)) (by (with_reducible repeat first | apply bN_ | apply bD_ | apply bA_); exact BK1071.out) hb)
               have n7_ := a0_ (below_step (by repeat (first | (with_reducible first | exact HB.out | apply lA_ | apply lN_ | apply lD_ | refine lS_ ?_ (sG_ HI993.out) | refine lS_ ?_ GE982.out | refine lS_ ?_ GE1021.out | refine lS_ ?_ GE1022.out | refine lS_ ?_ GE1036.out | refine lS_ ?_ GE1066.out | refine lS_ ?_ GE1071.out) | exact HB.out)) hb)
               clear BK982
               clear BK1021
               clear BK1022
               clear BK1036
               clear HI993
               clear BK1066
               clear BK1071
               clear HB
               have BK982 := n0_
               have BK1021 := n1_
               have BK1022 := n2_
               have BK1036 := n3_
               have HI993 := n4_
               have BK1066 := n5_
               have BK1071 := n6_
               have HB := n7_
               clear n0_ n1_ n2_ n3_ n4_ n5_ n6_ n7_
               (try clear hb)
               (try clear hb2)
               (try clear hk)
               (try clear hi)
               refine hK.out _ _ ⟨(bC_ BK1066.out 0).trans rfl, (bC_ BK1066.out 1).trans rfl, (bC_ BK1066.out 2).trans rfl, (bC_ BK1022.out 0).trans rfl, (bC_ BK1022.out 1).trans rfl, (bC_ BK1022.out 2).trans rfl⟩ (fun hHeld => ?_)
               clear hK K
               refine norm_ (a' := ?_) ?_ ?_
               rotate_left
               ·show Act.put _ (some 141) _ = _
                simp only [Act.put, zA_, zB_, zC_, i64_w, i32_w]
                rfl
               refine one_ (i := 3) (N := some 143) #[true, true, true, true, false, false, false, false, false, false, false, false, false, false, false, false, false, false, false] rfl rfl (one_of HT_.out (by kernel_rfl)) (by decide) (fun K hK => ?_)
               refine goes_ Try.func23 (by kernel_rfl) rfl #[.agg #[.int .i64 t1008, .int .i64 t1009, .int .i64 t1010]] (by rfl) rfl rfl (by (try simp only [List.map_toArray, List.map_cons, List.map_nil]); first | done | rfl) ?_
               with_reducible refine (stipendref03_Number.calls kj46 t1008 t1009 t1010 t1073 _ A129.out).mono ?_
               rintro e w152 ⟨rfl, hb⟩
               refine ⟨_, rfl, ?_⟩
               have n0_ := a0_ (bB_ (g := gb982) (o := .cells #[.int .i64 a1_0, .int .i64 a1_1, .int .i64 a1_2] 23 (0, 0)) (by (with_reducible repeat first | apply bN_ | apply bD_ | apply bA_); exact BK982.out) hb)
               have n1_ := a0_ (bB_ (g := gb1021) (o := .cells #[.int .i64 t1005, .int .i64 t1006, .int .i64 t1007] 23 (0, 0)) (by (with_reducible repeat first | apply bN_ | apply bD_ | apply bA_); exact BK1021.out) hb)
               have n2_ := a0_ (bB_ (g := gb1022) (o := .cells #[.int .i64 t1008, .int .i64 t1009, .int .i64 t1010] 23 (0, 0)) (by (with_reducible repeat first | apply bN_ | apply bD_ | apply bA_); exact BK1022.out) hb)
               have n3_ := a0_ (bB_ (g := gb1036) (o := .cells #[.int .i64 t1023, .int .i64 t1024, .int .i64 t1025] 23 (0, 0)) (by (with_reducible repeat first | apply bN_ | apply bD_ | apply bA_); exact BK1036.out) hb)
               have n4_ := a0_ (IsS62.below (by repeat (first | (with_reducible first | exact HI993.out | apply sA_ | apply sN_ | apply sD_ | refine sF_ ?_ NB993_982.out _ | refine sF_ ?_ NB993_1021.out _ | refine sF_ ?_ NB993_1022.out _ | refine sF_ ?_ NB993_1036.out _ | refine sF_ ?_ NB993_1066.out _ | refine sF_ ?_ NB993_1071.out _) | exact HI993.out)) hb)
               have n5_ := a0_ (bB_ (g := gb1066) (o := .cells #[.int .i64 t1062, .int .i64 t1063, .int .i64 t1064] 23 (0, 0)) (by (with_reducible repeat first | apply bN_ | apply bD_ | apply bA_); exact BK1066.out) hb)
               have n6_ := a0_ (bB_ (g := gb1071) (o := .cells #[.int .i64 t1067, .int .i64 t1068, .int .i64 t1069] 23 (0, 0)) (by (with_reducible repeat first | apply bN_ | apply bD_ | apply bA_); exact BK1071.out) hb)
               have n7_ := a0_ (below_step (by repeat (first | (with_reducible first | exact HB.out | apply lA_ | apply lN_ | apply lD_ | refine lS_ ?_ (sG_ HI993.out) | refine lS_ ?_ GE982.out | refine lS_ ?_ GE1021.out | refine lS_ ?_ GE1022.out | refine lS_ ?_ GE1036.out | refine lS_ ?_ GE1066.out | refine lS_ ?_ GE1071.out) | exact HB.out)) hb)
               clear BK982
               clear BK1021
               clear BK1022
               clear BK1036
               clear HI993
               clear BK1066
               clear BK1071
               clear HB
               have BK982 := n0_
               have BK1021 := n1_
               have BK1022 := n2_
               have BK1036 := n3_
               have HI993 := n4_
               have BK1066 := n5_
               have BK1071 := n6_
               have HB := n7_
               clear n0_ n1_ n2_ n3_ n4_ n5_ n6_ n7_
               (try clear hb)
               (try clear hb2)
               (try clear hk)
               (try clear hi)
               refine hK.out _ _ ⟨(bC_ BK1066.out 0).trans rfl, (bC_ BK1066.out 1).trans rfl, (bC_ BK1066.out 2).trans rfl, (bC_ BK1022.out 0).trans rfl, (bC_ BK1022.out 1).trans rfl, (bC_ BK1022.out 2).trans rfl⟩ (fun hHeld => ?_)
               clear hK K
               refine norm_ (a' := ?_) ?_ ?_
               rotate_left
               ·show Act.put _ (some 143) _ = _
                simp only [Act.put, zA_, zB_, zC_, i64_w, i32_w]
                rfl
               refine pure_ (i := 4) (N := some 144) (v := ?_) (a' := ?_) #[true, true, true, true, true, false, false, false, false, false, false, false, false, false, false, false, false, false, false] rfl rfl (any_of HT_.out (by kernel_rfl)) (fun _ _ _ h => h) (Or.inl ⟨by rfl, ?_⟩) ?_ ?_
               rotate_left
               ·intro w'
                go_simp
                with_reducible rfl
               rotate_left
               ·simp only [Act.put, zA_, zB_, zC_, i64_w, i32_w]
                rfl
               refine pure_ (i := 5) (N := some 145) (v := ?_) (a' := ?_) #[true, true, true, true, true, true, false, false, false, false, false, false, false, false, false, false, false, false, false] rfl rfl (any_of HT_.out (by kernel_rfl)) (fun _ _ _ h => h) (Or.inl ⟨by rfl, ?_⟩) ?_ ?_
               rotate_left
               ·intro w'
                go_simp
                with_reducible rfl
               rotate_left
               ·simp only [Act.put, zA_, zB_, zC_, i64_w, i32_w]
                rfl
               refine pure_ (i := 6) (N := some 146) (v := ?_) (a' := ?_) #[true, true, true, true, true, true, true, false, false, false, false, false, false, false, false, false, false, false, false] rfl rfl (any_of HT_.out (by kernel_rfl)) (fun _ _ _ h => h) (Or.inl ⟨by rfl, ?_⟩) ?_ ?_
               rotate_left
               ·intro w'
                go_simp
                with_reducible rfl
               rotate_left
               ·simp only [Act.put, zA_, zB_, zC_, i64_w, i32_w]
                rfl
               refine pure_ (i := 7) (N := some 147) (v := ?_) (a' := ?_) #[true, true, true, true, true, true, true, true, false, false, false, false, false, false, false, false, false, false, false] rfl rfl (any_of HT_.out (by kernel_rfl)) (fun _ _ _ h => h) (Or.inl ⟨by rfl, ?_⟩) ?_ ?_
               rotate_left
               ·intro w'
                go_simp
                with_reducible rfl
               rotate_left
               ·simp only [Act.put, zA_, zB_, zC_, i64_w, i32_w]
                rfl
               refine pure_ (i := 8) (N := some 148) (v := undef) (a' := ?_) #[true, true, true, true, true, true, true, true, true, false, false, false, false, false, false, false, false, false, false] rfl rfl (any_of HT_.out (by kernel_rfl)) (fun _ _ _ h => h) (Or.inr ⟨by rfl, rfl⟩) ?_ ?_
               rotate_left
               ·simp only [Act.put, zA_, zB_, zC_, i64_w, i32_w]
                rfl
               refine pure_ (i := 9) (N := some 149) (v := undef) (a' := ?_) #[true, true, true, true, true, true, true, true, true, true, false, false, false, false, false, false, false, false, false] rfl rfl (any_of HT_.out (by kernel_rfl)) (fun _ _ _ h => h) (Or.inr ⟨by rfl, rfl⟩) ?_ ?_
               rotate_left
               ·simp only [Act.put, zA_, zB_, zC_, i64_w, i32_w]
                rfl
               refine pure_ (i := 10) (N := some 150) (v := ?_) (a' := ?_) #[true, true, true, true, true, true, true, true, true, true, true, false, false, false, false, false, false, false, false] rfl rfl (any_of HT_.out (by kernel_rfl)) (fun _ _ _ h => h) (Or.inl ⟨by rfl, ?_⟩) ?_ ?_
               rotate_left
               ·intro w'
                go_simp
                with_reducible rfl
               rotate_left
               ·simp only [Act.put, zA_, zB_, zC_, i64_w, i32_w]
                rfl
               refine pure_ (i := 11) (N := some 151) (v := ?_) (a' := ?_) #[true, true, true, true, true, true, true, true, true, true, true, true, false, false, false, false, false, false, false] rfl rfl (any_of HT_.out (by kernel_rfl)) (fun _ _ _ h => h) (Or.inl ⟨by rfl, ?_⟩) ?_ ?_
               rotate_left
               ·intro w'
                go_simp
                with_reducible rfl
               rotate_left
               ·simp only [Act.put, zA_, zB_, zC_, i64_w, i32_w]
                rfl
               refine pure_ (i := 12) (N := some 152) (v := undef) (a' := ?_) #[true, true, true, true, true, true, true, true, true, true, true, true, true, false, false, false, false, false, false] rfl rfl (any_of HT_.out (by kernel_rfl)) (fun _ _ _ h => h) (Or.inr ⟨by rfl, rfl⟩) ?_ ?_
               rotate_left
               ·simp only [Act.put, zA_, zB_, zC_, i64_w, i32_w]
                rfl
               refine pure_ (i := 13) (N := some 153) (v := undef) (a' := ?_) #[true, true, true, true, true, true, true, true, true, true, true, true, true, true, false, false, false, false, false] rfl rfl (any_of HT_.out (by kernel_rfl)) (fun _ _ _ h => h) (Or.inr ⟨by rfl, rfl⟩) ?_ ?_
               rotate_left
               ·simp only [Act.put, zA_, zB_, zC_, i64_w, i32_w]
                rfl
               refine pure_ (i := 14) (N := some 154) (v := undef) (a' := ?_) #[true, true, true, true, true, true, true, true, true, true, true, true, true, true, true, false, false, false, false] rfl rfl (any_of HT_.out (by kernel_rfl)) (fun _ _ _ h => h) (Or.inr ⟨by rfl, rfl⟩) ?_ ?_
               rotate_left
               ·simp only [Act.put, zA_, zB_, zC_, i64_w, i32_w]
                rfl
               refine pure_ (i := 15) (N := some 155) (v := undef) (a' := ?_) #[true, true, true, true, true, true, true, true, true, true, true, true, true, true, true, true, false, false, false] rfl rfl (any_of HT_.out (by kernel_rfl)) (fun _ _ _ h => h) (Or.inr ⟨by rfl, rfl⟩) ?_ ?_
               rotate_left
               ·simp only [Act.put, zA_, zB_, zC_, i64_w, i32_w]
                rfl
               refine pure_ (i := 16) (N := some 156) (v := undef) (a' := ?_) #[true, true, true, true, true, true, true, true, true, true, true, true, true, true, true, true, true, false, false] rfl rfl (any_of HT_.out (by kernel_rfl)) (fun _ _ _ h => h) (Or.inr ⟨by rfl, rfl⟩) ?_ ?_
               rotate_left
               ·simp only [Act.put, zA_, zB_, zC_, i64_w, i32_w]
                rfl
               refine pure_ (i := 17) (N := some 157) (v := ?_) (a' := ?_) #[true, true, true, true, true, true, true, true, true, true, true, true, true, true, true, true, true, true, false] rfl rfl (any_of HT_.out (by kernel_rfl)) (fun _ _ _ h => h) (Or.inl ⟨by rfl, ?_⟩) ?_ ?_
               rotate_left
               ·intro w'
                go_simp
                with_reducible rfl
               rotate_left
               ·simp only [Act.put, zA_, zB_, zC_, i64_w, i32_w]
                rfl
               refine pure_ (i := 18) (N := some 158) (v := ?_) (a' := ?_) #[true, true, true, true, true, true, true, true, true, true, true, true, true, true, true, true, true, true, true] rfl rfl (any_of HT_.out (by kernel_rfl)) (fun _ _ _ h => h) (Or.inl ⟨by rfl, ?_⟩) ?_ ?_
               rotate_left
               ·intro w'
                go_simp
                with_reducible rfl
               rotate_left
               ·simp only [Act.put, zA_, zB_, zC_, i64_w, i32_w]
                rfl
               refine done_ (done_of HT_.out (by kernel_rfl)) ?_
               try go_wp2
               go_meet
               case rel => exact ⟨_, (false), (by first | rfl | (simp; done) | (simp [*]; done)), H', ⟨by have := HK1.out; have := HJ16.out; have := HJ46.out; first | omega | exact Nat.le_refl _⟩, ⟨by (with_reducible repeat first | apply bN_ | apply bD_ | apply bA_); exact BK982.out⟩, ⟨by (with_reducible repeat first | apply bN_ | apply bD_ | apply bA_); exact BK1021.out⟩, ⟨by (with_reducible repeat first | apply bN_ | apply bD_ | apply bA_); exact BK1022.out⟩, ⟨by (with_reducible repeat first | apply bN_ | apply bD_ | apply bA_); exact BK1036.out⟩, ⟨by (with_reducible repeat first | apply bN_ | apply bD_ | apply bA_); exact BK1066.out⟩, ⟨by (with_reducible repeat first | apply bN_ | apply bD_ | apply bA_); exact BK1071.out⟩, ⟨by repeat (first | (with_reducible first | exact HI993.out | apply sA_ | apply sN_ | apply sD_ | refine sF_ ?_ NB993_982.out _ | refine sF_ ?_ NB993_1021.out _ | refine sF_ ?_ NB993_1022.out _ | refine sF_ ?_ NB993_1036.out _ | refine sF_ ?_ NB993_1066.out _ | refine sF_ ?_ NB993_1071.out _) | exact HI993.out)⟩, ⟨by repeat (first | (with_reducible first | exact HB.out | apply lA_ | apply lN_ | apply lD_ | refine lS_ ?_ (sG_ HI993.out) | refine lS_ ?_ GE982.out | refine lS_ ?_ GE1021.out | refine lS_ ?_ GE1022.out | refine lS_ ?_ GE1036.out | refine lS_ ?_ GE1066.out | refine lS_ ?_ GE1071.out) | exact HB.out)⟩⟩
            case rest =>
             clear HC104
             try clear c135
             try clear c136
             try clear c136b0
             obtain ⟨kq, x158_103, rfl, HA, HJ103, BK982, BK1021, BK1022, BK1036, BK1066, BK1071, HI993, HB⟩ := hcut
             cases kq with
             | zero => exact absurd HA.out (by simp [stipendlaw04_PeriodPays.j3])
             | succ kj103 =>
              have H := HA.out
              clear HA
              simp only [stipendlaw04_PeriodPays.j3] at H
              by_cases c153 : x158_103 = true
              ·subst c153
               have H1 : (none) = some r := by rw [if_pos rfl] at H; exact H
               clear H
               have H := H1
               clear H1
               exact absurd H (by simp)
              ·replace c153 := Bool.eq_false_iff.mpr c153
               subst c153
               have H1 : (stipendlaw04_PeriodPays.l0 kj103 (wrap64 (x7_1 + t1048)) t1037 (wrap64 (x9_1 + 1)) a1_0 a1_1 a1_2 t1050 t1051 t1052 t1053 t1054 t1055 t1056 t1057 t1058) = some r := by rw [if_neg (show ¬ (false = true) by decide)] at H; exact H
               clear H
               have H := H1
               clear H1
               have H' := a0_ H
               clear H
               go_wp2
               go_roundg kj103
               case measure => have := HK1.out; have := HJ16.out; have := HJ46.out; have := HJ103.out; omega
               case rel => exact ⟨(wrap64 (x7_1 + t1048)), (t1037), (wrap64 (x9_1 + 1)), (t1050), (t1051), (t1052), (t1053), (t1054), (t1055), (t1056), (t1057), (t1058), (by first | rfl | (simp; done) | (simp [*]; done)), (by first | rfl | (simp; done) | (simp [*]; done)), (by first | rfl | (simp; done) | (simp [*]; done)), H', ⟨by have := HK1.out; have := HJ16.out; have := HJ46.out; have := HJ103.out; omega⟩, ⟨by (with_reducible repeat first | apply bN_ | apply bD_ | apply bA_); exact BK982.out⟩, ⟨by repeat (first | (with_reducible first | exact HI993.out | apply sA_ | apply sN_ | apply sD_ | refine sF_ ?_ NB993_982.out _ | refine sF_ ?_ NB993_1021.out _ | refine sF_ ?_ NB993_1022.out _ | refine sF_ ?_ NB993_1036.out _ | refine sF_ ?_ NB993_1066.out _ | refine sF_ ?_ NB993_1071.out _) | exact HI993.out)⟩, ⟨by repeat (first | (with_reducible first | exact HB.out | apply lA_ | apply lN_ | apply lD_ | refine lS_ ?_ (sG_ HI993.out) | refine lS_ ?_ GE982.out | refine lS_ ?_ GE1021.out | refine lS_ ?_ GE1022.out | refine lS_ ?_ GE1036.out | refine lS_ ?_ GE1066.out | refine lS_ ?_ GE1071.out) | exact HB.out)⟩⟩
     ·rw [if_neg c12] at H
      have c12b0 : decide (x9_1 ≤ t995) = false := decide_eq_false c12
      clear c12
      replace H := oB_ H
      obtain ⟨⟨t1076, t1077, t1078, t1079, t1080, t1081, t1082, t1083, t1084, t1085, t1086, t1087⟩, A1540, H⟩ := H
      replace H : ((period_Year_End.f t1079 t1080 t1081 t1082 t1083 t1084 t1085 t1086 t1087).bind fun bt1088 => ((date_Between.f k1 t1076 t1077 t1078 bt1088.1 bt1088.2.1 bt1088.2.2.1).bind fun bt1100 => ((period_Year_PayDay.f k1 bt1088.2.2.2.1 bt1088.2.2.2.2.1 bt1088.2.2.2.2.2.1 bt1088.2.2.2.2.2.2.1 bt1088.2.2.2.2.2.2.2.1 bt1088.2.2.2.2.2.2.2.2.1 bt1088.2.2.2.2.2.2.2.2.2.1 bt1088.2.2.2.2.2.2.2.2.2.2.1 bt1088.2.2.2.2.2.2.2.2.2.2.2 0).bind fun bt1102 => ((period_Year_Count.f bt1102.2.2.2.2.1 bt1102.2.2.2.2.2.1 bt1102.2.2.2.2.2.2.1 bt1102.2.2.2.2.2.2.2.1 bt1102.2.2.2.2.2.2.2.2.1 bt1102.2.2.2.2.2.2.2.2.2.1 bt1102.2.2.2.2.2.2.2.2.2.2.1 bt1102.2.2.2.2.2.2.2.2.2.2.2.1 bt1102.2.2.2.2.2.2.2.2.2.2.2.2).bind fun bt1116 => ((period_Year_Quarter.f k1 bt1116.2.1 bt1116.2.2.1 bt1116.2.2.2.1 bt1116.2.2.2.2.1 bt1116.2.2.2.2.2.1 bt1116.2.2.2.2.2.2.1 bt1116.2.2.2.2.2.2.2.1 bt1116.2.2.2.2.2.2.2.2.1 bt1116.2.2.2.2.2.2.2.2.2 (wrap64 (bt1116.1 + 1))).bind fun bt1126 => ((period_Year_Days.f k1 bt1126.2.2.1 bt1126.2.2.2.1 bt1126.2.2.2.2.1 bt1126.2.2.2.2.2.1 bt1126.2.2.2.2.2.2.1 bt1126.2.2.2.2.2.2.2.1 bt1126.2.2.2.2.2.2.2.2.1 bt1126.2.2.2.2.2.2.2.2.2.1 bt1126.2.2.2.2.2.2.2.2.2.2 (-1)).bind fun bt1137 => (if x7_1 = (wrap64 (bt1100.1 + 1)) then (if x8_1 = 4 then (if bt1102.2.2.2.1 = 1 then (if bt1126.2.1 = 1 then (some (bt1137.2.1 == 1)) else (none)) else (none)) else (none)) else (none)))))))) = some r := H
      have A154 := a0_ A1540
      clear A1540
      replace H := oB_ H
      obtain ⟨⟨t1088, t1089, t1090, t1091, t1092, t1093, t1094, t1095, t1096, t1097, t1098, t1099⟩, A1550, H⟩ := H
      replace H : ((date_Between.f k1 t1076 t1077 t1078 t1088 t1089 t1090).bind fun bt1100 => ((period_Year_PayDay.f k1 t1091 t1092 t1093 t1094 t1095 t1096 t1097 t1098 t1099 0).bind fun bt1102 => ((period_Year_Count.f bt1102.2.2.2.2.1 bt1102.2.2.2.2.2.1 bt1102.2.2.2.2.2.2.1 bt1102.2.2.2.2.2.2.2.1 bt1102.2.2.2.2.2.2.2.2.1 bt1102.2.2.2.2.2.2.2.2.2.1 bt1102.2.2.2.2.2.2.2.2.2.2.1 bt1102.2.2.2.2.2.2.2.2.2.2.2.1 bt1102.2.2.2.2.2.2.2.2.2.2.2.2).bind fun bt1116 => ((period_Year_Quarter.f k1 bt1116.2.1 bt1116.2.2.1 bt1116.2.2.2.1 bt1116.2.2.2.2.1 bt1116.2.2.2.2.2.1 bt1116.2.2.2.2.2.2.1 bt1116.2.2.2.2.2.2.2.1 bt1116.2.2.2.2.2.2.2.2.1 bt1116.2.2.2.2.2.2.2.2.2 (wrap64 (bt1116.1 + 1))).bind fun bt1126 => ((period_Year_Days.f k1 bt1126.2.2.1 bt1126.2.2.2.1 bt1126.2.2.2.2.1 bt1126.2.2.2.2.2.1 bt1126.2.2.2.2.2.2.1 bt1126.2.2.2.2.2.2.2.1 bt1126.2.2.2.2.2.2.2.2.1 bt1126.2.2.2.2.2.2.2.2.2.1 bt1126.2.2.2.2.2.2.2.2.2.2 (-1)).bind fun bt1137 => (if x7_1 = (wrap64 (bt1100.1 + 1)) then (if x8_1 = 4 then (if bt1102.2.2.2.1 = 1 then (if bt1126.2.1 = 1 then (some (bt1137.2.1 == 1)) else (none)) else (none)) else (none)) else (none))))))) = some r := H
      have A155 := a0_ A1550
      clear A1550
      replace H := oB_ H
      obtain ⟨⟨t1100, t1101⟩, A1560, H⟩ := H
      replace H : ((period_Year_PayDay.f k1 t1091 t1092 t1093 t1094 t1095 t1096 t1097 t1098 t1099 0).bind fun bt1102 => ((period_Year_Count.f bt1102.2.2.2.2.1 bt1102.2.2.2.2.2.1 bt1102.2.2.2.2.2.2.1 bt1102.2.2.2.2.2.2.2.1 bt1102.2.2.2.2.2.2.2.2.1 bt1102.2.2.2.2.2.2.2.2.2.1 bt1102.2.2.2.2.2.2.2.2.2.2.1 bt1102.2.2.2.2.2.2.2.2.2.2.2.1 bt1102.2.2.2.2.2.2.2.2.2.2.2.2).bind fun bt1116 => ((period_Year_Quarter.f k1 bt1116.2.1 bt1116.2.2.1 bt1116.2.2.2.1 bt1116.2.2.2.2.1 bt1116.2.2.2.2.2.1 bt1116.2.2.2.2.2.2.1 bt1116.2.2.2.2.2.2.2.1 bt1116.2.2.2.2.2.2.2.2.1 bt1116.2.2.2.2.2.2.2.2.2 (wrap64 (bt1116.1 + 1))).bind fun bt1126 => ((period_Year_Days.f k1 bt1126.2.2.1 bt1126.2.2.2.1 bt1126.2.2.2.2.1 bt1126.2.2.2.2.2.1 bt1126.2.2.2.2.2.2.1 bt1126.2.2.2.2.2.2.2.1 bt1126.2.2.2.2.2.2.2.2.1 bt1126.2.2.2.2.2.2.2.2.2.1 bt1126.2.2.2.2.2.2.2.2.2.2 (-1)).bind fun bt1137 => (if x7_1 = (wrap64 (t1100 + 1)) then (if x8_1 = 4 then (if bt1102.2.2.2.1 = 1 then (if bt1126.2.1 = 1 then (some (bt1137.2.1 == 1)) else (none)) else (none)) else (none)) else (none)))))) = some r := H
      have A156 := a0_ A1560
      clear A1560
      replace H := oB_ H
      obtain ⟨⟨t1102, t1103, t1104, t1105, t1106, t1107, t1108, t1109, t1110, t1111, t1112, t1113, t1114⟩, A1570, H⟩ := H
      replace H : ((period_Year_Count.f t1106 t1107 t1108 t1109 t1110 t1111 t1112 t1113 t1114).bind fun bt1116 => ((period_Year_Quarter.f k1 bt1116.2.1 bt1116.2.2.1 bt1116.2.2.2.1 bt1116.2.2.2.2.1 bt1116.2.2.2.2.2.1 bt1116.2.2.2.2.2.2.1 bt1116.2.2.2.2.2.2.2.1 bt1116.2.2.2.2.2.2.2.2.1 bt1116.2.2.2.2.2.2.2.2.2 (wrap64 (bt1116.1 + 1))).bind fun bt1126 => ((period_Year_Days.f k1 bt1126.2.2.1 bt1126.2.2.2.1 bt1126.2.2.2.2.1 bt1126.2.2.2.2.2.1 bt1126.2.2.2.2.2.2.1 bt1126.2.2.2.2.2.2.2.1 bt1126.2.2.2.2.2.2.2.2.1 bt1126.2.2.2.2.2.2.2.2.2.1 bt1126.2.2.2.2.2.2.2.2.2.2 (-1)).bind fun bt1137 => (if x7_1 = (wrap64 (t1100 + 1)) then (if x8_1 = 4 then (if t1105 = 1 then (if bt1126.2.1 = 1 then (some (bt1137.2.1 == 1)) else (none)) else (none)) else (none)) else (none))))) = some r := H
      have A157 := a0_ A1570
      clear A1570
      replace H := oB_ H
      obtain ⟨⟨t1116, t1117, t1118, t1119, t1120, t1121, t1122, t1123, t1124, t1125⟩, A1580, H⟩ := H
      replace H : ((period_Year_Quarter.f k1 t1117 t1118 t1119 t1120 t1121 t1122 t1123 t1124 t1125 (wrap64 (t1116 + 1))).bind fun bt1126 => ((period_Year_Days.f k1 bt1126.2.2.1 bt1126.2.2.2.1 bt1126.2.2.2.2.1 bt1126.2.2.2.2.2.1 bt1126.2.2.2.2.2.2.1 bt1126.2.2.2.2.2.2.2.1 bt1126.2.2.2.2.2.2.2.2.1 bt1126.2.2.2.2.2.2.2.2.2.1 bt1126.2.2.2.2.2.2.2.2.2.2 (-1)).bind fun bt1137 => (if x7_1 = (wrap64 (t1100 + 1)) then (if x8_1 = 4 then (if t1105 = 1 then (if bt1126.2.1 = 1 then (some (bt1137.2.1 == 1)) else (none)) else (none)) else (none)) else (none)))) = some r := H
      have A158 := a0_ A1580
      clear A1580
      replace H := oB_ H
      obtain ⟨⟨t1126, t1127, t1128, t1129, t1130, t1131, t1132, t1133, t1134, t1135, t1136⟩, A1590, H⟩ := H
      replace H : ((period_Year_Days.f k1 t1128 t1129 t1130 t1131 t1132 t1133 t1134 t1135 t1136 (-1)).bind fun bt1137 => (if x7_1 = (wrap64 (t1100 + 1)) then (if x8_1 = 4 then (if t1105 = 1 then (if t1127 = 1 then (some (bt1137.2.1 == 1)) else (none)) else (none)) else (none)) else (none))) = some r := H
      have A159 := a0_ A1590
      clear A1590
      replace H := oB_ H
      obtain ⟨⟨t1137, t1138, t1139, t1140, t1141, t1142, t1143, t1144, t1145, t1146, t1147⟩, A1600, H⟩ := H
      replace H : (if x7_1 = (wrap64 (t1100 + 1)) then (if x8_1 = 4 then (if t1105 = 1 then (if t1127 = 1 then (some (t1138 == 1)) else (none)) else (none)) else (none)) else (none)) = some r := H
      have A160 := a0_ A1600
      clear A1600
      by_cases c161 : x7_1 = (wrap64 (t1100 + 1))
      ·rw [if_pos c161] at H
       have c161b0 : (x7_1 == (wrap64 (t1100 + 1))) = true := beq_iff_eq.mpr c161
       have c161b1 : (x7_1 != (wrap64 (t1100 + 1))) = false := bne_eq_false_iff_eq.mpr c161
       clear c161
       by_cases c162 : x8_1 = 4
       ·rw [if_pos c162] at H
        have c162b0 : (x8_1 == 4) = true := beq_iff_eq.mpr c162
        have c162b1 : (x8_1 != 4) = false := bne_eq_false_iff_eq.mpr c162
        clear c162
        by_cases c163 : t1105 = 1
        ·rw [if_pos c163] at H
         have c163b0 : (t1105 == 1) = true := beq_iff_eq.mpr c163
         have c163b1 : (t1105 != 1) = false := bne_eq_false_iff_eq.mpr c163
         clear c163
         by_cases c164 : t1127 = 1
         ·rw [if_pos c164] at H
          have c164b0 : (t1127 == 1) = true := beq_iff_eq.mpr c164
          have c164b1 : (t1127 != 1) = false := bne_eq_false_iff_eq.mpr c164
          clear c164
          obtain rfl := Option.some.inj H
          go_wp2_with (first | ((with_reducible refine gate_callee (f := 24) rfl ?_); refine goesL_ (some 45) rfl rfl Try.func24 (by kernel_rfl) rfl #[.pointer (some ⟨g993, 0, none⟩)] rfl (by (try simp only [List.map_toArray, List.map_cons, List.map_nil]); first | done | rfl) ?_; (with_reducible refine (period_Year_Count.calls g993 x994000_1 x994001_1 x994002_1 x994003_1 x994004_1 x994005_1 x994006_1 x994007_1 x994008_1 t995 t996 t997 t998 t999 t1000 t1001 t1002 t1003 t1004 w _ ?side1 ?side2 A11.out).mono ?_); (case side1 => repeat (first | (with_reducible first | exact HI993.out | apply sA_ | apply sN_ | apply sD_ | refine sF_ ?_ NB993_982.out _) | exact HI993.out)); (case side2 => repeat (first | (with_reducible first | exact HB.out | apply lA_ | apply lN_ | apply lD_ | refine lS_ ?_ (sG_ HI993.out) | refine lS_ ?_ GE982.out) | exact HB.out)); rintro e w165 ⟨rfl, hi, hb, hk⟩; refine ⟨_, rfl, ?_⟩; have n0_ := a0_ (KeepBut.blk hk (g' := gb982) (o := .cells #[.int .i64 a1_0, .int .i64 a1_1, .int .i64 a1_2] 23 (0, 0)) (by (with_reducible repeat first | apply bN_ | apply bD_ | apply bA_); exact BK982.out) NB982_993.out (by simp)); have n1_ := a0_ (hb); have n2_ := a0_ (hi); clear BK982; clear HB; clear HI993; have BK982 := n0_; have HB := n1_; have HI993 := n2_; clear n0_ n1_ n2_; (try clear hb); (try clear hb2); (try clear hk); (try clear hi)) | ((with_reducible refine gate_callee (f := 17) rfl ?_); refine goesL_ (some 165) rfl rfl Try.func17 (by kernel_rfl) rfl #[.pointer (some ⟨g993, 0, none⟩)] rfl (by (try simp only [List.map_toArray, List.map_cons, List.map_nil]); first | done | rfl) ?_; (with_reducible refine (period_Year_Start.calls g993 t996 t997 t998 t999 t1000 t1001 t1002 t1003 t1004 t1076 t1077 t1078 t1079 t1080 t1081 t1082 t1083 t1084 t1085 t1086 t1087 w _ ?side1 ?side2 A154.out).mono ?_); (case side1 => repeat (first | (with_reducible first | exact HI993.out | apply sA_ | apply sN_ | apply sD_ | refine sF_ ?_ NB993_982.out _) | exact HI993.out)); (case side2 => repeat (first | (with_reducible first | exact HB.out | apply lA_ | apply lN_ | apply lD_ | refine lS_ ?_ (sG_ HI993.out) | refine lS_ ?_ GE982.out) | exact HB.out)); rintro e w166 ⟨rfl, hi, hb, hk⟩; refine ⟨_, rfl, ?_⟩; have n0_ := a0_ (KeepBut.blk hk (g' := gb982) (o := .cells #[.int .i64 a1_0, .int .i64 a1_1, .int .i64 a1_2] 23 (0, 0)) (by (with_reducible repeat first | apply bN_ | apply bD_ | apply bA_); exact BK982.out) NB982_993.out (by simp)); have n1_ := a0_ (hb); have n2_ := a0_ (hi); clear BK982; clear HB; clear HI993; have BK982 := n0_; have HB := n1_; have HI993 := n2_; clear n0_ n1_ n2_; (try clear hb); (try clear hb2); (try clear hk); (try clear hi)) | ((with_reducible refine gate_callee (f := 18) rfl ?_); refine goesL_ (some 167) rfl rfl Try.func18 (by kernel_rfl) rfl #[.pointer (some ⟨g993, 0, none⟩)] rfl (by (try simp only [List.map_toArray, List.map_cons, List.map_nil]); first | done | rfl) ?_; (with_reducible refine (period_Year_End.calls g993 t1079 t1080 t1081 t1082 t1083 t1084 t1085 t1086 t1087 t1088 t1089 t1090 t1091 t1092 t1093 t1094 t1095 t1096 t1097 t1098 t1099 w _ ?side1 ?side2 A155.out).mono ?_); (case side1 => repeat (first | (with_reducible first | exact HI993.out | apply sA_ | apply sN_ | apply sD_ | refine sF_ ?_ NB993_982.out _) | exact HI993.out)); (case side2 => repeat (first | (with_reducible first | exact HB.out | apply lA_ | apply lN_ | apply lD_ | refine lS_ ?_ (sG_ HI993.out) | refine lS_ ?_ GE982.out) | exact HB.out)); rintro e w167 ⟨rfl, hi, hb, hk⟩; refine ⟨_, rfl, ?_⟩; have n0_ := a0_ (KeepBut.blk hk (g' := gb982) (o := .cells #[.int .i64 a1_0, .int .i64 a1_1, .int .i64 a1_2] 23 (0, 0)) (by (with_reducible repeat first | apply bN_ | apply bD_ | apply bA_); exact BK982.out) NB982_993.out (by simp)); have n1_ := a0_ (hb); have n2_ := a0_ (hi); clear BK982; clear HB; clear HI993; have BK982 := n0_; have HB := n1_; have HI993 := n2_; clear n0_ n1_ n2_; (try clear hb); (try clear hb2); (try clear hk); (try clear hi)) | ((with_reducible refine gate_callee (f := 16) rfl ?_); refine goesL_ (some 168) rfl rfl Try.func16 (by kernel_rfl) rfl #[.agg #[.int .i64 t1076, .int .i64 t1077, .int .i64 t1078], .agg #[.int .i64 t1088, .int .i64 t1089, .int .i64 t1090]] rfl (by (try simp only [List.map_toArray, List.map_cons, List.map_nil]); first | done | rfl) ?_; (with_reducible refine (date_Between.calls k1 t1076 t1077 t1078 t1088 t1089 t1090 t1100 t1101 _ A156.out).mono ?_); rintro e w168 ⟨rfl, hb⟩; refine ⟨_, rfl, ?_⟩; have n0_ := a0_ (bB_ (g := gb982) (o := .cells #[.int .i64 a1_0, .int .i64 a1_1, .int .i64 a1_2] 23 (0, 0)) (by (with_reducible repeat first | apply bN_ | apply bD_ | apply bA_); exact BK982.out) hb); have n1_ := a0_ (IsS62.below (by repeat (first | (with_reducible first | exact HI993.out | apply sA_ | apply sN_ | apply sD_ | refine sF_ ?_ NB993_982.out _) | exact HI993.out)) hb); have n2_ := a0_ (below_step (by repeat (first | (with_reducible first | exact HB.out | apply lA_ | apply lN_ | apply lD_ | refine lS_ ?_ (sG_ HI993.out) | refine lS_ ?_ GE982.out) | exact HB.out)) hb); clear BK982; clear HI993; clear HB; have BK982 := n0_; have HI993 := n1_; have HB := n2_; clear n0_ n1_ n2_; (try clear hb); (try clear hb2); (try clear hk); (try clear hi)) | ((with_reducible refine gate_callee (f := 31) rfl ?_); refine goesL_ (some 173) rfl rfl Try.func31 (by kernel_rfl) rfl #[.pointer (some ⟨g993, 0, none⟩), .int .i64 0] rfl (by (try simp only [List.map_toArray, List.map_cons, List.map_nil]); first | done | rfl) ?_; (with_reducible refine (period_Year_PayDay.calls k1 g993 t1091 t1092 t1093 t1094 t1095 t1096 t1097 t1098 t1099 0 t1102 t1103 t1104 t1105 t1106 t1107 t1108 t1109 t1110 t1111 t1112 t1113 t1114 w _ ?side1 ?side2 A157.out).mono ?_); (case side1 => repeat (first | (with_reducible first | exact HI993.out | apply sA_ | apply sN_ | apply sD_ | refine sF_ ?_ NB993_982.out _) | exact HI993.out)); (case side2 => repeat (first | (with_reducible first | exact HB.out | apply lA_ | apply lN_ | apply lD_ | refine lS_ ?_ (sG_ HI993.out) | refine lS_ ?_ GE982.out) | exact HB.out)); rintro e w169 ⟨rfl, hi, hb, hk⟩; refine ⟨_, rfl, ?_⟩; have n0_ := a0_ (KeepBut.blk hk (g' := gb982) (o := .cells #[.int .i64 a1_0, .int .i64 a1_1, .int .i64 a1_2] 23 (0, 0)) (by (with_reducible repeat first | apply bN_ | apply bD_ | apply bA_); exact BK982.out) NB982_993.out (by simp)); have n1_ := a0_ (hb); have n2_ := a0_ (hi); clear BK982; clear HB; clear HI993; have BK982 := n0_; have HB := n1_; have HI993 := n2_; clear n0_ n1_ n2_; (try clear hb); (try clear hb2); (try clear hk); (try clear hi)) | ((with_reducible refine gate_dst (N := 27) rfl ?_); refine box_event ?hg (N := 27) ?hd (cs := #[.int .i64 0, .int .i64 0, .int .i64 0]) (t := 23) ?hr ?_; (case hd => rfl); (case hg => rfl); (case hr => first | (go_simp; done) | (go_simp; rfl)); intro gb1115 hg w170 hbox hb; have n0_ := a0_ (bB_ (g := gb982) (o := .cells #[.int .i64 a1_0, .int .i64 a1_1, .int .i64 a1_2] 23 (0, 0)) (by (with_reducible repeat first | apply bN_ | apply bD_ | apply bA_); exact BK982.out) hb); have n1_ := a0_ (IsS62.below (by repeat (first | (with_reducible first | exact HI993.out | apply sA_ | apply sN_ | apply sD_ | refine sF_ ?_ NB993_982.out _) | exact HI993.out)) hb); have n2_ := a0_ (below_step (by repeat (first | (with_reducible first | exact HB.out | apply lA_ | apply lN_ | apply lD_ | refine lS_ ?_ (sG_ HI993.out) | refine lS_ ?_ GE982.out) | exact HB.out)) hb); have n3_ := a0_ (hbox); have n4_ := a0_ ((by rw [hg]; exact (below_size (by repeat (first | (with_reducible first | exact HB.out | apply lA_ | apply lN_ | apply lD_ | refine lS_ ?_ (sG_ HI993.out) | refine lS_ ?_ GE982.out) | exact HB.out))) : w.heap.size ≤ gb1115)); have n5_ := a0_ ((by rw [hg]; exact (below_size (by repeat (first | (with_reducible first | exact HB.out | apply lA_ | apply lN_ | apply lD_ | refine lS_ ?_ (sG_ HI993.out) | refine lS_ ?_ GE982.out) | exact HB.out))) : w.heap.size ≤ gb1115)); have n6_ := a0_ ((by rw [hg]; exact Nat.ne_of_lt (blk_lt (g := gb982) (o := .cells #[.int .i64 a1_0, .int .i64 a1_1, .int .i64 a1_2] 23 (0, 0)) (by (with_reducible repeat first | apply bN_ | apply bD_ | apply bA_); exact BK982.out)) : gb982 ≠ gb1115)); have n7_ := a0_ ((by rw [hg]; exact Nat.ne_of_gt (blk_lt (g := gb982) (o := .cells #[.int .i64 a1_0, .int .i64 a1_1, .int .i64 a1_2] 23 (0, 0)) (by (with_reducible repeat first | apply bN_ | apply bD_ | apply bA_); exact BK982.out)) : gb1115 ≠ gb982)); have n8_ := a0_ ((by rw [hg]; exact Nat.ne_of_lt (IsS62.lt (show IsS62 w _ g993 t1106 t1107 t1108 t1109 t1110 t1111 t1112 t1113 t1114 from by repeat (first | (with_reducible first | exact HI993.out | apply sA_ | apply sN_ | apply sD_ | refine sF_ ?_ NB993_982.out _) | exact HI993.out))) : g993 ≠ gb1115)); have n9_ := a0_ ((by rw [hg]; exact Nat.ne_of_gt (IsS62.lt (show IsS62 w _ g993 t1106 t1107 t1108 t1109 t1110 t1111 t1112 t1113 t1114 from by repeat (first | (with_reducible first | exact HI993.out | apply sA_ | apply sN_ | apply sD_ | refine sF_ ?_ NB993_982.out _) | exact HI993.out))) : gb1115 ≠ g993)); clear BK982; clear HI993; clear HB; have BK982 := n0_; have HI993 := n1_; have HB := n2_; have BK1115 := n3_; have GW1115 := n4_; have GE1115 := n5_; have NB982_1115 := n6_; have NB1115_982 := n7_; have NB993_1115 := n8_; have NB1115_993 := n9_; clear n0_ n1_ n2_ n3_ n4_ n5_ n6_ n7_ n8_ n9_; clear hb hbox hg; have hnb171 := NB1115_982.out; have hnc171 := NB982_1115.out; have hnb172 := NB1115_993.out; have hnc172 := NB993_1115.out; have hcz173_0 : w170.cell? ⟨gb1115, 0, none⟩ = some (.int .i64 0) := (bC_ BK1115.out 0).trans rfl; have hcz173_1 : w170.cell? ⟨gb1115, 1, none⟩ = some (.int .i64 0) := (bC_ BK1115.out 1).trans rfl; have hcz173_2 : w170.cell? ⟨gb1115, 2, none⟩ = some (.int .i64 0) := (bC_ BK1115.out 2).trans rfl; have hfz173_0 := bF_ BK1115.out 0; have hfz173_1 := bF_ BK1115.out 1; have hfz173_2 := bF_ BK1115.out 2) | ((with_reducible refine gate_callee (f := 24) rfl ?_); refine goesL_ (some 179) rfl rfl Try.func24 (by kernel_rfl) rfl #[.pointer (some ⟨g993, 0, none⟩)] rfl (by (try simp only [List.map_toArray, List.map_cons, List.map_nil]); first | done | rfl) ?_; (with_reducible refine (period_Year_Count.calls g993 t1106 t1107 t1108 t1109 t1110 t1111 t1112 t1113 t1114 t1116 t1117 t1118 t1119 t1120 t1121 t1122 t1123 t1124 t1125 w _ ?side1 ?side2 A158.out).mono ?_); (case side1 => repeat (first | (with_reducible first | exact HI993.out | apply sA_ | apply sN_ | apply sD_ | refine sF_ ?_ NB993_982.out _ | refine sF_ ?_ NB993_1115.out _) | exact HI993.out)); (case side2 => repeat (first | (with_reducible first | exact HB.out | apply lA_ | apply lN_ | apply lD_ | refine lS_ ?_ (sG_ HI993.out) | refine lS_ ?_ GE982.out | refine lS_ ?_ GE1115.out) | exact HB.out)); rintro e w174 ⟨rfl, hi, hb, hk⟩; refine ⟨_, rfl, ?_⟩; have n0_ := a0_ (KeepBut.blk hk (g' := gb982) (o := .cells #[.int .i64 a1_0, .int .i64 a1_1, .int .i64 a1_2] 23 (0, 0)) (by (with_reducible repeat first | apply bN_ | apply bD_ | apply bA_); refine blk_far ?_ NB982_1115.out _; (with_reducible repeat first | apply bN_ | apply bD_ | apply bA_); refine blk_far ?_ NB982_1115.out _; (with_reducible repeat first | apply bN_ | apply bD_ | apply bA_); refine blk_far ?_ NB982_1115.out _; (with_reducible repeat first | apply bN_ | apply bD_ | apply bA_); exact BK982.out) NB982_993.out (by simp)); have n1_ := a0_ (KeepBut.blk hk (g' := gb1115) (o := .cells #[.int .i64 t1102, .int .i64 t1103, .int .i64 t1104] 23 (0, 0)) (by (with_reducible repeat first | apply bN_ | apply bD_ | apply bA_); refine blk_put (cs := #[.int .i64 t1102, .int .i64 t1103, .int .i64 0]) ?_ 2 _ rfl; (with_reducible repeat first | apply bN_ | apply bD_ | apply bA_); refine blk_put (cs := #[.int .i64 t1102, .int .i64 0, .int .i64 0]) ?_ 1 _ rfl; (with_reducible repeat first | apply bN_ | apply bD_ | apply bA_); refine blk_put (cs := #[.int .i64 0, .int .i64 0, .int .i64 0]) ?_ 0 _ rfl; (with_reducible repeat first | apply bN_ | apply bD_ | apply bA_); exact BK1115.out) NB1115_993.out (by simp)); have n2_ := a0_ (hb); have n3_ := a0_ (hi); clear BK982; clear BK1115; clear HB; clear HI993; have BK982 := n0_; have BK1115 := n1_; have HB := n2_; have HI993 := n3_; clear n0_ n1_ n2_ n3_; (try clear hb); (try clear hb2); (try clear hk); (try clear hi)) | ((with_reducible refine gate_callee (f := 32) rfl ?_); refine goesL_ (some 181) rfl rfl Try.func32 (by kernel_rfl) rfl #[.pointer (some ⟨g993, 0, none⟩), .int .i64 (wrap64 (t1116 + 1))] rfl (by (try simp only [List.map_toArray, List.map_cons, List.map_nil]); first | done | rfl) ?_; (with_reducible refine (period_Year_Quarter.calls k1 g993 t1117 t1118 t1119 t1120 t1121 t1122 t1123 t1124 t1125 (wrap64 (t1116 + 1)) t1126 t1127 t1128 t1129 t1130 t1131 t1132 t1133 t1134 t1135 t1136 w _ ?side1 ?side2 A159.out).mono ?_); (case side1 => repeat (first | (with_reducible first | exact HI993.out | apply sA_ | apply sN_ | apply sD_ | refine sF_ ?_ NB993_982.out _ | refine sF_ ?_ NB993_1115.out _) | exact HI993.out)); (case side2 => repeat (first | (with_reducible first | exact HB.out | apply lA_ | apply lN_ | apply lD_ | refine lS_ ?_ (sG_ HI993.out) | refine lS_ ?_ GE982.out | refine lS_ ?_ GE1115.out) | exact HB.out)); rintro e w175 ⟨rfl, hi, hb, hk⟩; refine ⟨_, rfl, ?_⟩; have n0_ := a0_ (KeepBut.blk hk (g' := gb982) (o := .cells #[.int .i64 a1_0, .int .i64 a1_1, .int .i64 a1_2] 23 (0, 0)) (by (with_reducible repeat first | apply bN_ | apply bD_ | apply bA_); exact BK982.out) NB982_993.out (by simp)); have n1_ := a0_ (KeepBut.blk hk (g' := gb1115) (o := .cells #[.int .i64 t1102, .int .i64 t1103, .int .i64 t1104] 23 (0, 0)) (by (with_reducible repeat first | apply bN_ | apply bD_ | apply bA_); exact BK1115.out) NB1115_993.out (by simp)); have n2_ := a0_ (hb); have n3_ := a0_ (hi); clear BK982; clear BK1115; clear HB; clear HI993; have BK982 := n0_; have BK1115 := n1_; have HB := n2_; have HI993 := n3_; clear n0_ n1_ n2_ n3_; (try clear hb); (try clear hb2); (try clear hk); (try clear hi)) | ((with_reducible refine gate_callee (f := 33) rfl ?_); refine goesL_ (some 186) rfl rfl Try.func33 (by kernel_rfl) rfl #[.pointer (some ⟨g993, 0, none⟩), .int .i64 (-1)] rfl (by (try simp only [List.map_toArray, List.map_cons, List.map_nil]); first | done | rfl) ?_; (with_reducible refine (period_Year_Days.calls k1 g993 t1128 t1129 t1130 t1131 t1132 t1133 t1134 t1135 t1136 (-1) t1137 t1138 t1139 t1140 t1141 t1142 t1143 t1144 t1145 t1146 t1147 w _ ?side1 ?side2 A160.out).mono ?_); (case side1 => repeat (first | (with_reducible first | exact HI993.out | apply sA_ | apply sN_ | apply sD_ | refine sF_ ?_ NB993_982.out _ | refine sF_ ?_ NB993_1115.out _) | exact HI993.out)); (case side2 => repeat (first | (with_reducible first | exact HB.out | apply lA_ | apply lN_ | apply lD_ | refine lS_ ?_ (sG_ HI993.out) | refine lS_ ?_ GE982.out | refine lS_ ?_ GE1115.out) | exact HB.out)); rintro e w176 ⟨rfl, hi, hb, hk⟩; refine ⟨_, rfl, ?_⟩; have n0_ := a0_ (KeepBut.blk hk (g' := gb982) (o := .cells #[.int .i64 a1_0, .int .i64 a1_1, .int .i64 a1_2] 23 (0, 0)) (by (with_reducible repeat first | apply bN_ | apply bD_ | apply bA_); exact BK982.out) NB982_993.out (by simp)); have n1_ := a0_ (KeepBut.blk hk (g' := gb1115) (o := .cells #[.int .i64 t1102, .int .i64 t1103, .int .i64 t1104] 23 (0, 0)) (by (with_reducible repeat first | apply bN_ | apply bD_ | apply bA_); exact BK1115.out) NB1115_993.out (by simp)); have n2_ := a0_ (hb); have n3_ := a0_ (hi); clear BK982; clear BK1115; clear HB; clear HI993; have BK982 := n0_; have BK1115 := n1_; have HB := n2_; have HI993 := n3_; clear n0_ n1_ n2_ n3_; (try clear hb); (try clear hb2); (try clear hk); (try clear hi)))
          go_ret
          exact ⟨by first | rfl | (simp [errW_none, errW_some] <;> rfl) | (simp [*, errW_none, errW_some] <;> rfl), by repeat (first | (with_reducible first | exact HB.out | apply lA_ | apply lN_ | apply lD_ | refine lS_ ?_ (sG_ HI993.out) | refine lS_ ?_ GE982.out | refine lS_ ?_ GE1115.out) | exact HB.out)⟩
         ·rw [if_neg c164] at H
          exact absurd H (by simp)
        ·rw [if_neg c163] at H
         exact absurd H (by simp)
       ·rw [if_neg c162] at H
        exact absurd H (by simp)
      ·rw [if_neg c161] at H
       exact absurd H (by simp)
  ·rw [if_neg c5] at H
   have c5b0 : period_New.made a0 a1_0 a1_1 a1_2 = false := by simpa using c5
   clear c5
   replace H := oB_ H
   obtain ⟨t1148, A1770, H⟩ := H
   replace H : (some true) = some r := H
   have A177 := a0_ A1770
   clear A1770
   obtain rfl := Option.some.inj H
   go_enter Try.func9, Try.ntmps9
   go_wp2_with (first | ((with_reducible refine gate_dst (N := 3) rfl ?_); refine box_event ?hg (N := 3) ?hd (cs := #[.int .i64 a1_0, .int .i64 a1_1, .int .i64 a1_2]) (t := 23) ?hr ?_; (case hd => rfl); (case hg => rfl); (case hr => first | (go_simp; done) | (go_simp; rfl)); intro gb982 hg w178 hbox hb; have n0_ := a0_ (below_step (by repeat (first | (with_reducible first | exact HB.out | apply lA_ | apply lN_ | apply lD_) | exact HB.out)) hb); have n1_ := a0_ (hbox); have n2_ := a0_ ((by rw [hg]; exact (below_size (by repeat (first | (with_reducible first | exact HB.out | apply lA_ | apply lN_ | apply lD_) | exact HB.out))) : w.heap.size ≤ gb982)); have n3_ := a0_ ((by rw [hg]; exact (below_size (by repeat (first | (with_reducible first | exact HB.out | apply lA_ | apply lN_ | apply lD_) | exact HB.out))) : w.heap.size ≤ gb982)); clear HB; have HB := n0_; have BK982 := n1_; have GW982 := n2_; have GE982 := n3_; clear n0_ n1_ n2_ n3_; clear hb hbox hg) | ((with_reducible refine gate_callee (f := 20) rfl ?_); refine goesL_ (some 33) rfl rfl Try.func20 (by kernel_rfl) rfl #[] rfl (by (try simp only [List.map_toArray, List.map_cons, List.map_nil]); first | done | rfl) ?_; (with_reducible refine (stipendlaw04_cuts.calls k  true _ A3.out).mono ?_); rintro e w179 ⟨rfl, hb⟩; refine ⟨_, rfl, ?_⟩; have n0_ := a0_ (bB_ (g := gb982) (o := .cells #[.int .i64 a1_0, .int .i64 a1_1, .int .i64 a1_2] 23 (0, 0)) (by (with_reducible repeat first | apply bN_ | apply bD_ | apply bA_); exact BK982.out) hb); have n1_ := a0_ (below_step (by repeat (first | (with_reducible first | exact HB.out | apply lA_ | apply lN_ | apply lD_ | refine lS_ ?_ GE982.out) | exact HB.out)) hb); clear BK982; clear HB; have BK982 := n0_; have HB := n1_; clear n0_ n1_; (try clear hb); (try clear hb2); (try clear hk); (try clear hi); have hcz180_0 : w179.cell? ⟨gb982, 0, none⟩ = some (.int .i64 a1_0) := (bC_ BK982.out 0).trans rfl; have hcz180_1 : w179.cell? ⟨gb982, 1, none⟩ = some (.int .i64 a1_1) := (bC_ BK982.out 1).trans rfl; have hcz180_2 : w179.cell? ⟨gb982, 2, none⟩ = some (.int .i64 a1_2) := (bC_ BK982.out 2).trans rfl; have hfz180_0 := bF_ BK982.out 0; have hfz180_1 := bF_ BK982.out 1; have hfz180_2 := bF_ BK982.out 2) | ((with_reducible refine gate_callee (f := 12) rfl ?_); refine goesL_ (some 38) rfl rfl Try.func12 (by kernel_rfl) rfl #[.int .i64 a0, .agg #[.int .i64 a1_0, .int .i64 a1_1, .int .i64 a1_2]] rfl (by (try simp only [List.map_toArray, List.map_cons, List.map_nil]); first | done | rfl) ?_; (with_reducible refine (period_New_B.calls k a0 a1_0 a1_1 a1_2 t1148 _ A177.out).mono ?_); rintro e w181 ⟨rfl, hb⟩; refine ⟨_, rfl, ?_⟩; have n0_ := a0_ (bB_ (g := gb982) (o := .cells #[.int .i64 a1_0, .int .i64 a1_1, .int .i64 a1_2] 23 (0, 0)) (by (with_reducible repeat first | apply bN_ | apply bD_ | apply bA_); exact BK982.out) hb); have n1_ := a0_ (below_step (by repeat (first | (with_reducible first | exact HB.out | apply lA_ | apply lN_ | apply lD_ | refine lS_ ?_ GE982.out) | exact HB.out)) hb); clear BK982; clear HB; have BK982 := n0_; have HB := n1_; clear n0_ n1_; (try clear hb); (try clear hb2); (try clear hk); (try clear hi)))
   go_ret
   exact ⟨by first | rfl | (simp [errW_none, errW_some] <;> rfl) | (simp [*, errW_none, errW_some] <;> rfl), by repeat (first | (with_reducible first | exact HB.out | apply lA_ | apply lN_ | apply lD_ | refine lS_ ?_ GE982.out) | exact HB.out)⟩
 ·replace c4 := Bool.eq_false_iff.mpr c4
  subst c4
  have H1 : (none) = some r := by rw [if_neg (show ¬ (false = true) by decide)] at H; exact H
  clear H
  have H := H1
  clear H1
  exact absurd H (by simp)

/-- THE ONE PURE STATEMENT of stipendlaw04_PeriodPays: yours. -/
def stipendlaw04_PeriodPays.Pure : Prop := ∀ (a0 : Int) (a1_0 : Int) (a1_1 : Int) (a1_2 : Int), (Lit.int .i64 a0).wf = true → (Lit.int .i64 a1_0).wf = true → (Lit.int .i64 a1_1).wf = true → (Lit.int .i64 a1_2).wf = true → ∃ k, stipendlaw04_PeriodPays.f k a0 a1_0 a1_1 a1_2 = some true
theorem stipendlaw04_PeriodPays.walk (P : stipendlaw04_PeriodPays.Pure) (a0 : Int) (a1_0 : Int) (a1_1 : Int) (a1_2 : Int) (w : World) (w0 : (Lit.int .i64 a0).wf = true) (w1_0 : (Lit.int .i64 a1_0).wf = true) (w1_1 : (Lit.int .i64 a1_1).wf = true) (w1_2 : (Lit.int .i64 a1_2).wf = true) :
  Calls Try.prog 9 #[.int .i64 a0, .agg #[.int .i64 a1_0, .int .i64 a1_1, .int .i64 a1_2]] w fun e w' => e = .returned (.bool true) ∧ Below w.heap.size w w' := by
 obtain ⟨k, h⟩ := P a0 a1_0 a1_1 a1_2 w0 w1_0 w1_1 w1_2
 refine (stipendlaw04_PeriodPays.calls k a0 a1_0 a1_1 a1_2 true w h).mono ?_
 rintro e w' ⟨rfl, hd⟩
 exact ⟨rfl, hd⟩

end Go.Proofs.Ytojinnnckfimhaa.X
