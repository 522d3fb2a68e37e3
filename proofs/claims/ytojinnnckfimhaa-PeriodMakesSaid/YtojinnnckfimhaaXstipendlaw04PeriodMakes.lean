-- laid by the session's own program (xprint.py) out of Lean's print of the program; Lean checks it
import Derived.Test.YtojinnnckfimhaaX0
import Derived.Test.YtojinnnckfimhaaXeq1
import Derived.Test.YtojinnnckfimhaaXperiodNominal
import Derived.Test.YtojinnnckfimhaaXdateBetween
import Derived.Test.YtojinnnckfimhaaXperiodNewA
import Derived.Test.YtojinnnckfimhaaXperiodYearStart
import Derived.Test.YtojinnnckfimhaaXperiodYearNextA
import Derived.Test.YtojinnnckfimhaaXperiodlength
import Derived.Test.YtojinnnckfimhaaXperiodYearFreq
import Derived.Test.YtojinnnckfimhaaXstipendlaw04cuts
import Derived.Test.YtojinnnckfimhaaXstipendref03Months
import Derived.Test.YtojinnnckfimhaaXstipendref03Number
namespace Go.Proofs.Ytojinnnckfimhaa.X
open Go.RowKit Go.Proofs.YtojinnnckfimhaaW.PrintWords Go.Proofs.YtojinnnckfimhaaW.PrintLast
set_option linter.unusedVariables false
set_option linter.unusedSimpArgs false

attribute [local go_sem high] eqA23
/-! ### stipendlaw04_PeriodMakes: function 4 -/
mutual
def stipendlaw04_PeriodMakes.j0 : Nat → Int → Int → Bool → Int → Int → Int → Int → Int → Int → Int → Int → Int → Int → Int → Int → Option (Bool)
 | 0, _, _, _, _, _, _, _, _, _, _, _, _, _, _, _ => none
 | k + 1, x0, x6, x30, x515000, x515001, x515002, x526000, x526001, x526002, x526003, x526004, x526005, x526006, x526007, x526008 => if x30 = true then (none) else ((stipendref03_Months.f k x515000 x515001 x515002 12).bind fun bt527 => (if bt527.2.2.2 = true then (if x515001 = 2 then (stipendlaw04_PeriodMakes.j1 k x0 x6 (x515002 == 29) x515000 x515001 x515002 x526000 x526001 x526002 x526003 x526004 x526005 x526006 x526007 x526008 bt527.1 bt527.2.1 bt527.2.2.1) else (stipendlaw04_PeriodMakes.j1 k x0 x6 false x515000 x515001 x515002 x526000 x526001 x526002 x526003 x526004 x526005 x526006 x526007 x526008 bt527.1 bt527.2.1 bt527.2.2.1)) else (stipendlaw04_PeriodMakes.j1 k x0 x6 true x515000 x515001 x515002 x526000 x526001 x526002 x526003 x526004 x526005 x526006 x526007 x526008 bt527.1 bt527.2.1 bt527.2.2.1)))
def stipendlaw04_PeriodMakes.j1 : Nat → Int → Int → Bool → Int → Int → Int → Int → Int → Int → Int → Int → Int → Int → Int → Int → Int → Int → Int → Option (Bool)
 | 0, _, _, _, _, _, _, _, _, _, _, _, _, _, _, _, _, _, _ => none
 | k + 1, x0, x6, x53, x515000, x515001, x515002, x526000, x526001, x526002, x526003, x526004, x526005, x526006, x526007, x526008, x532000, x532001, x532002 => if x53 = true then (none) else (if x6 = 0 then ((period_Year_Start.f x526000 x526001 x526002 x526003 x526004 x526005 x526006 x526007 x526008).bind fun bt532 => (if (!(bt532.1 == x515000) || (!(bt532.2.1 == x515001) || (!(bt532.2.2.1 == x515002)))) = true then (stipendlaw04_PeriodMakes.j2 k x0 true x515000 x515001 x515002 bt532.2.2.2.1 bt532.2.2.2.2.1 bt532.2.2.2.2.2.1 bt532.2.2.2.2.2.2.1 bt532.2.2.2.2.2.2.2.1 bt532.2.2.2.2.2.2.2.2.1 bt532.2.2.2.2.2.2.2.2.2.1 bt532.2.2.2.2.2.2.2.2.2.2.1 bt532.2.2.2.2.2.2.2.2.2.2.2 x532000 x532001 x532002) else ((period_Year_Freq.f bt532.2.2.2.1 bt532.2.2.2.2.1 bt532.2.2.2.2.2.1 bt532.2.2.2.2.2.2.1 bt532.2.2.2.2.2.2.2.1 bt532.2.2.2.2.2.2.2.2.1 bt532.2.2.2.2.2.2.2.2.2.1 bt532.2.2.2.2.2.2.2.2.2.2.1 bt532.2.2.2.2.2.2.2.2.2.2.2).bind fun bt544 => (stipendlaw04_PeriodMakes.j2 k x0 (bt544.1 != x0) x515000 x515001 x515002 bt544.2.1 bt544.2.2.1 bt544.2.2.2.1 bt544.2.2.2.2.1 bt544.2.2.2.2.2.1 bt544.2.2.2.2.2.2.1 bt544.2.2.2.2.2.2.2.1 bt544.2.2.2.2.2.2.2.2.1 bt544.2.2.2.2.2.2.2.2.2 x532000 x532001 x532002)))) else (stipendlaw04_PeriodMakes.j2 k x0 true x515000 x515001 x515002 x526000 x526001 x526002 x526003 x526004 x526005 x526006 x526007 x526008 x532000 x532001 x532002))
def stipendlaw04_PeriodMakes.j2 : Nat → Int → Bool → Int → Int → Int → Int → Int → Int → Int → Int → Int → Int → Int → Int → Int → Int → Int → Option (Bool)
 | 0, _, _, _, _, _, _, _, _, _, _, _, _, _, _, _, _, _ => none
 | k + 1, x0, x77, x515000, x515001, x515002, x526000, x526001, x526002, x526003, x526004, x526005, x526006, x526007, x526008, x532000, x532001, x532002 => if x77 = true then (none) else ((stipendref03_Number.f k x532000 x532001 x532002).bind fun t554 => ((stipendref03_Number.f k x515000 x515001 x515002).bind fun t555 => ((period_Year_End.f x526000 x526001 x526002 x526003 x526004 x526005 x526006 x526007 x526008).bind fun bt556 => ((date_Between.f k x515000 x515001 x515002 bt556.1 bt556.2.1 bt556.2.2.1).bind fun bt568 => (if period_Year_Next.made bt556.2.2.2.1 bt556.2.2.2.2.1 bt556.2.2.2.2.2.1 bt556.2.2.2.2.2.2.1 bt556.2.2.2.2.2.2.2.1 bt556.2.2.2.2.2.2.2.2.1 bt556.2.2.2.2.2.2.2.2.2.1 bt556.2.2.2.2.2.2.2.2.2.2.1 bt556.2.2.2.2.2.2.2.2.2.2.2 = true then ((period_Year_Next_A.f k bt556.2.2.2.1 bt556.2.2.2.2.1 bt556.2.2.2.2.2.1 bt556.2.2.2.2.2.2.1 bt556.2.2.2.2.2.2.2.1 bt556.2.2.2.2.2.2.2.2.1 bt556.2.2.2.2.2.2.2.2.2.1 bt556.2.2.2.2.2.2.2.2.2.2.1 bt556.2.2.2.2.2.2.2.2.2.2.2).bind fun bt570 => (if bt568.2 = 0 then (stipendlaw04_PeriodMakes.j3 k x0 (wrap64 (t554 - t555)) bt570.2.2.2.2.2.2.2.2.2 (bt568.1 != (wrap64 ((wrap64 (t554 - t555)) - 1))) bt556.2.2.2.1 bt556.2.2.2.2.1 bt556.2.2.2.2.2.1 bt556.2.2.2.2.2.2.1 bt556.2.2.2.2.2.2.2.1 bt556.2.2.2.2.2.2.2.2.1 bt556.2.2.2.2.2.2.2.2.2.1 bt556.2.2.2.2.2.2.2.2.2.2.1 bt556.2.2.2.2.2.2.2.2.2.2.2 x532000 x532001 x532002 bt570.1 bt570.2.1 bt570.2.2.1 bt570.2.2.2.1 bt570.2.2.2.2.1 bt570.2.2.2.2.2.1 bt570.2.2.2.2.2.2.1 bt570.2.2.2.2.2.2.2.1 bt570.2.2.2.2.2.2.2.2.1) else (stipendlaw04_PeriodMakes.j3 k x0 (wrap64 (t554 - t555)) bt570.2.2.2.2.2.2.2.2.2 true bt556.2.2.2.1 bt556.2.2.2.2.1 bt556.2.2.2.2.2.1 bt556.2.2.2.2.2.2.1 bt556.2.2.2.2.2.2.2.1 bt556.2.2.2.2.2.2.2.2.1 bt556.2.2.2.2.2.2.2.2.2.1 bt556.2.2.2.2.2.2.2.2.2.2.1 bt556.2.2.2.2.2.2.2.2.2.2.2 x532000 x532001 x532002 bt570.1 bt570.2.1 bt570.2.2.1 bt570.2.2.2.1 bt570.2.2.2.2.1 bt570.2.2.2.2.2.1 bt570.2.2.2.2.2.2.1 bt570.2.2.2.2.2.2.2.1 bt570.2.2.2.2.2.2.2.2.1))) else ((period_Year_Next_B.f k bt556.2.2.2.1 bt556.2.2.2.2.1 bt556.2.2.2.2.2.1 bt556.2.2.2.2.2.2.1 bt556.2.2.2.2.2.2.2.1 bt556.2.2.2.2.2.2.2.2.1 bt556.2.2.2.2.2.2.2.2.2.1 bt556.2.2.2.2.2.2.2.2.2.2.1 bt556.2.2.2.2.2.2.2.2.2.2.2).bind fun bt619 => (if bt568.2 = 0 then (stipendlaw04_PeriodMakes.j4 k x0 (wrap64 (t554 - t555)) bt619.1 (bt568.1 != (wrap64 ((wrap64 (t554 - t555)) - 1))) bt619.2.1 bt619.2.2.1 bt619.2.2.2.1 bt619.2.2.2.2.1 bt619.2.2.2.2.2.1 bt619.2.2.2.2.2.2.1 bt619.2.2.2.2.2.2.2.1 bt619.2.2.2.2.2.2.2.2.1 bt619.2.2.2.2.2.2.2.2.2 x532000 x532001 x532002) else (stipendlaw04_PeriodMakes.j4 k x0 (wrap64 (t554 - t555)) bt619.1 true bt619.2.1 bt619.2.2.1 bt619.2.2.2.1 bt619.2.2.2.2.1 bt619.2.2.2.2.2.1 bt619.2.2.2.2.2.2.1 bt619.2.2.2.2.2.2.2.1 bt619.2.2.2.2.2.2.2.2.1 bt619.2.2.2.2.2.2.2.2.2 x532000 x532001 x532002))))))))
def stipendlaw04_PeriodMakes.j3 : Nat → Int → Int → Int → Bool → Int → Int → Int → Int → Int → Int → Int → Int → Int → Int → Int → Int → Int → Int → Int → Int → Int → Int → Int → Int → Int → Option (Bool)
 | 0, _, _, _, _, _, _, _, _, _, _, _, _, _, _, _, _, _, _, _, _, _, _, _, _, _ => none
 | k + 1, x0, x9, x13, x102, x526000, x526001, x526002, x526003, x526004, x526005, x526006, x526007, x526008, x532000, x532001, x532002, x580000, x580001, x580002, x580003, x580004, x580005, x580006, x580007, x580008 => if x102 = true then (none) else ((stipendref03_Months.f k x532000 x532001 x532002 12).bind fun bt581 => (if bt581.2.2.2 = true then (if x13 = 0 then ((period_Year_Start.f x580000 x580001 x580002 x580003 x580004 x580005 x580006 x580007 x580008).bind fun bt586 => (if (!(bt586.1 == x532000) || (!(bt586.2.1 == x532001) || (!(bt586.2.2.1 == x532002)))) = true then (none) else ((period_Year_Freq.f bt586.2.2.2.1 bt586.2.2.2.2.1 bt586.2.2.2.2.2.1 bt586.2.2.2.2.2.2.1 bt586.2.2.2.2.2.2.2.1 bt586.2.2.2.2.2.2.2.2.1 bt586.2.2.2.2.2.2.2.2.2.1 bt586.2.2.2.2.2.2.2.2.2.2.1 bt586.2.2.2.2.2.2.2.2.2.2.2).bind fun bt598 => (if bt598.1 = x0 then (if 0 ≤ x0 then (if x0 < 5 then ((period_Year_Count.f x526000 x526001 x526002 x526003 x526004 x526005 x526006 x526007 x526008).bind fun bt608 => (if bt608.1 = (rd ([0, wrap64 (Int.tdiv (wrap64 (x9 + 6)) 7), wrap64 (Int.tdiv (wrap64 (x9 + 13)) 14), wrap64 (Int.tdiv (wrap64 (x9 + 27)) 28), 12] : List Int) x0) then (if (rd ([0, wrap64 (Int.tdiv (wrap64 (x9 + 6)) 7), wrap64 (Int.tdiv (wrap64 (x9 + 13)) 14), wrap64 (Int.tdiv (wrap64 (x9 + 27)) 28), 12] : List Int) x0) ≤ 53 then ((period_Nominal.f x0).bind fun t618 => (some (decide ((rd ([0, wrap64 (Int.tdiv (wrap64 (x9 + 6)) 7), wrap64 (Int.tdiv (wrap64 (x9 + 13)) 14), wrap64 (Int.tdiv (wrap64 (x9 + 27)) 28), 12] : List Int) x0) ≥ t618)))) else (none)) else (none))) else (none)) else (none)) else (none))))) else (none)) else (none)))
def stipendlaw04_PeriodMakes.j4 : Nat → Int → Int → Int → Bool → Int → Int → Int → Int → Int → Int → Int → Int → Int → Int → Int → Int → Option (Bool)
 | 0, _, _, _, _, _, _, _, _, _, _, _, _, _, _, _, _ => none
 | k + 1, x0, x9, x13, x102, x526000, x526001, x526002, x526003, x526004, x526005, x526006, x526007, x526008, x532000, x532001, x532002 => if x102 = true then (none) else ((stipendref03_Months.f k x532000 x532001 x532002 12).bind fun bt629 => (if bt629.2.2.2 = true then (none) else (if x13 = 30 then (if 0 ≤ x0 then (if x0 < 5 then ((period_Year_Count.f x526000 x526001 x526002 x526003 x526004 x526005 x526006 x526007 x526008).bind fun bt634 => (if bt634.1 = (rd ([0, wrap64 (Int.tdiv (wrap64 (x9 + 6)) 7), wrap64 (Int.tdiv (wrap64 (x9 + 13)) 14), wrap64 (Int.tdiv (wrap64 (x9 + 27)) 28), 12] : List Int) x0) then (if (rd ([0, wrap64 (Int.tdiv (wrap64 (x9 + 6)) 7), wrap64 (Int.tdiv (wrap64 (x9 + 13)) 14), wrap64 (Int.tdiv (wrap64 (x9 + 27)) 28), 12] : List Int) x0) ≤ 53 then ((period_Nominal.f x0).bind fun t644 => (some (decide ((rd ([0, wrap64 (Int.tdiv (wrap64 (x9 + 6)) 7), wrap64 (Int.tdiv (wrap64 (x9 + 13)) 14), wrap64 (Int.tdiv (wrap64 (x9 + 27)) 28), 12] : List Int) x0) ≥ t644)))) else (none)) else (none))) else (none)) else (none)) else (none))))
def stipendlaw04_PeriodMakes.j5 : Nat → Int → Bool → Int → Int → Int → Option (Bool)
 | 0, _, _, _, _, _ => none
 | k + 1, x6, x30, x515000, x515001, x515002 => if x30 = true then (some (x6 == 40)) else ((stipendref03_Months.f k x515000 x515001 x515002 12).bind fun bt646 => (if bt646.2.2.2 = true then (if x515001 = 2 then (stipendlaw04_PeriodMakes.j6 k x6 (x515002 == 29)) else (stipendlaw04_PeriodMakes.j6 k x6 false)) else (stipendlaw04_PeriodMakes.j6 k x6 true)))
def stipendlaw04_PeriodMakes.j6 : Nat → Int → Bool → Option (Bool)
 | 0, _, _ => none
 | k + 1, x6, x53 => if x53 = true then (some (x6 == 30)) else (none)
end
def stipendlaw04_PeriodMakes.f (k : Nat) (a0 : Int) (a1_0 : Int) (a1_1 : Int) (a1_2 : Int) : Option (Bool) := (stipendlaw04_cuts.f k).bind fun t515 => (if t515 = true then (if period_New.made a0 a1_0 a1_1 a1_2 = true then ((period_New_A.f k a0 a1_0 a1_1 a1_2).bind fun bt516 => (if a0 < 1 then (stipendlaw04_PeriodMakes.j0 k a0 bt516.2.2.2.2.2.2.2.2.2 true a1_0 a1_1 a1_2 bt516.1 bt516.2.1 bt516.2.2.1 bt516.2.2.2.1 bt516.2.2.2.2.1 bt516.2.2.2.2.2.1 bt516.2.2.2.2.2.2.1 bt516.2.2.2.2.2.2.2.1 bt516.2.2.2.2.2.2.2.2.1) else (stipendlaw04_PeriodMakes.j0 k a0 bt516.2.2.2.2.2.2.2.2.2 (decide (a0 > 4)) a1_0 a1_1 a1_2 bt516.1 bt516.2.1 bt516.2.2.1 bt516.2.2.2.1 bt516.2.2.2.2.1 bt516.2.2.2.2.2.1 bt516.2.2.2.2.2.2.1 bt516.2.2.2.2.2.2.2.1 bt516.2.2.2.2.2.2.2.2.1))) else ((period_New_B.f k a0 a1_0 a1_1 a1_2).bind fun t645 => (if a0 < 1 then (stipendlaw04_PeriodMakes.j5 k t645 true a1_0 a1_1 a1_2) else (stipendlaw04_PeriodMakes.j5 k t645 (decide (a0 > 4)) a1_0 a1_1 a1_2)))) else (none))
def stipendlaw04_PeriodMakes.T9 : Bool × List (List Nat × List Nat) := (true, [([], []), ([0], [0]), ([1], [1]), ([2], [2]), ([3, 2], [2, 3]), ([2, 4], [2, 4]), ([5, 2], [5]), ([6], [6]), ([7, 6, 6], [6, 7]), ([6], [6]), ([8, 9, 6], [6, 8, 9]), ([6, 10], [6, 10]), ([11, 8], [11]), ([12], [12]), ([13, 12, 12], [12, 13]), ([12], [12]), ([14, 15, 12], [12, 14, 15]), ([12, 16], [12, 16])])
def stipendlaw04_PeriodMakes.B9 : List Nat := [0, 1, 3, 7, 15, 31, 63, 127, 255, 127, 1023, 2047, 4095, 8191, 16383, 8191, 65535, 131071]
theorem stipendlaw04_PeriodMakes.tab9 : rtab .any (opsOf Try.f4 9) = stipendlaw04_PeriodMakes.T9 := by kernel_rfl
theorem stipendlaw04_PeriodMakes.bits9 : waitsOk stipendlaw04_PeriodMakes.T9.2 stipendlaw04_PeriodMakes.B9 = true := by kernel_rfl
def stipendlaw04_PeriodMakes.T12 : Bool × List (List Nat × List Nat) := (true, [([], []), ([], []), ([1], [1]), ([0, 2, 2], [0, 2]), ([3], [3]), ([4], [4]), ([4], [4]), ([5, 3, 0, 1, 2, 3, 4, 5], [5]), ([6, 7, 0, 1, 2, 3, 4, 5, 6, 7], [6])])
def stipendlaw04_PeriodMakes.B12 : List Nat := [0, 0, 2, 7, 15, 31, 31, 63, 255]
theorem stipendlaw04_PeriodMakes.tab12 : rtab .any (opsOf Try.f4 12) = stipendlaw04_PeriodMakes.T12 := by kernel_rfl
theorem stipendlaw04_PeriodMakes.bits12 : waitsOk stipendlaw04_PeriodMakes.T12.2 stipendlaw04_PeriodMakes.B12 = true := by kernel_rfl
def stipendlaw04_PeriodMakes.T18 : Bool × List (List Nat × List Nat) := (true, [([], []), ([0], [0]), ([1], [1]), ([2], [2]), ([3, 2], [2, 3]), ([2, 4], [2, 4]), ([5, 2], [5]), ([6], [6]), ([7, 6, 6], [6, 7]), ([6], [6]), ([8, 9, 6], [6, 8, 9]), ([6, 10], [6, 10]), ([11, 8], [11]), ([12], [12]), ([13, 12, 12], [12, 13]), ([12], [12]), ([14, 15, 12], [12, 14, 15]), ([12, 16], [12, 16])])
def stipendlaw04_PeriodMakes.B18 : List Nat := [0, 1, 3, 7, 15, 31, 63, 127, 255, 127, 1023, 2047, 4095, 8191, 16383, 8191, 65535, 131071]
theorem stipendlaw04_PeriodMakes.tab18 : rtab .any (opsOf Try.f4 18) = stipendlaw04_PeriodMakes.T18 := by kernel_rfl
theorem stipendlaw04_PeriodMakes.bits18 : waitsOk stipendlaw04_PeriodMakes.T18.2 stipendlaw04_PeriodMakes.B18 = true := by kernel_rfl
theorem ints44_4_at {i : Int} (h0 : 0 ≤ i) (h1 : i < 5) (p0 p1 p2 p3 p4 : Int) (W : World) : Sem.run Try.prog (Instr.index 44 (Value.agg #[.int .i64 p0, .int .i64 p1, .int .i64 p2, .int .i64 p3, .int .i64 p4]) (Value.int .i64 i)) W = Result.ok (.int .i64 (rd ([p0, p1, p2, p3, p4] : List Int) i)) W := by
 have hu := Try.underlying44
 have : i = 0 ∨ i = 1 ∨ i = 2 ∨ i = 3 ∨ i = 4 := by omega
 rcases this with rfl | rfl | rfl | rfl | rfl
 ·simp [Instr.index, asIntOf, go_sem, run_underlying hu, rd]
 ·simp [Instr.index, asIntOf, go_sem, run_underlying hu, rd]
 ·simp [Instr.index, asIntOf, go_sem, run_underlying hu, rd]
 ·simp [Instr.index, asIntOf, go_sem, run_underlying hu, rd]
 ·simp [Instr.index, asIntOf, go_sem, run_underlying hu, rd]
set_option maxHeartbeats 8000000 in
set_option maxRecDepth 100000 in
theorem stipendlaw04_PeriodMakes.calls (k : Nat) (a0 : Int) (a1_0 : Int) (a1_1 : Int) (a1_2 : Int) (r : Bool) (w : World) (h : stipendlaw04_PeriodMakes.f k a0 a1_0 a1_1 a1_2 = some r) :
  Calls Try.prog 4 #[.int .i64 a0, .agg #[.int .i64 a1_0, .int .i64 a1_1, .int .i64 a1_2]] w fun e w' => e = .returned (.bool r) ∧ Below w.heap.size w w' := by
 have hu23 := Try.underlying23
 have hu44 := Try.underlying44
 have HB := a0_ (Below.refl w.heap.size w)
 have H : ((stipendlaw04_cuts.f k).bind fun t515 => (if t515 = true then (if period_New.made a0 a1_0 a1_1 a1_2 = true then ((period_New_A.f k a0 a1_0 a1_1 a1_2).bind fun bt516 => (if a0 < 1 then (stipendlaw04_PeriodMakes.j0 k a0 bt516.2.2.2.2.2.2.2.2.2 true a1_0 a1_1 a1_2 bt516.1 bt516.2.1 bt516.2.2.1 bt516.2.2.2.1 bt516.2.2.2.2.1 bt516.2.2.2.2.2.1 bt516.2.2.2.2.2.2.1 bt516.2.2.2.2.2.2.2.1 bt516.2.2.2.2.2.2.2.2.1) else (stipendlaw04_PeriodMakes.j0 k a0 bt516.2.2.2.2.2.2.2.2.2 (decide (a0 > 4)) a1_0 a1_1 a1_2 bt516.1 bt516.2.1 bt516.2.2.1 bt516.2.2.2.1 bt516.2.2.2.2.1 bt516.2.2.2.2.2.1 bt516.2.2.2.2.2.2.1 bt516.2.2.2.2.2.2.2.1 bt516.2.2.2.2.2.2.2.2.1))) else ((period_New_B.f k a0 a1_0 a1_1 a1_2).bind fun t645 => (if a0 < 1 then (stipendlaw04_PeriodMakes.j5 k t645 true a1_0 a1_1 a1_2) else (stipendlaw04_PeriodMakes.j5 k t645 (decide (a0 > 4)) a1_0 a1_1 a1_2)))) else (none))) = some r := h
 clear h
 replace H := oB_ H
 obtain ⟨t515, A30, H⟩ := H
 replace H : (if t515 = true then (if period_New.made a0 a1_0 a1_1 a1_2 = true then ((period_New_A.f k a0 a1_0 a1_1 a1_2).bind fun bt516 => (if a0 < 1 then (stipendlaw04_PeriodMakes.j0 k a0 bt516.2.2.2.2.2.2.2.2.2 true a1_0 a1_1 a1_2 bt516.1 bt516.2.1 bt516.2.2.1 bt516.2.2.2.1 bt516.2.2.2.2.1 bt516.2.2.2.2.2.1 bt516.2.2.2.2.2.2.1 bt516.2.2.2.2.2.2.2.1 bt516.2.2.2.2.2.2.2.2.1) else (stipendlaw04_PeriodMakes.j0 k a0 bt516.2.2.2.2.2.2.2.2.2 (decide (a0 > 4)) a1_0 a1_1 a1_2 bt516.1 bt516.2.1 bt516.2.2.1 bt516.2.2.2.1 bt516.2.2.2.2.1 bt516.2.2.2.2.2.1 bt516.2.2.2.2.2.2.1 bt516.2.2.2.2.2.2.2.1 bt516.2.2.2.2.2.2.2.2.1))) else ((period_New_B.f k a0 a1_0 a1_1 a1_2).bind fun t645 => (if a0 < 1 then (stipendlaw04_PeriodMakes.j5 k t645 true a1_0 a1_1 a1_2) else (stipendlaw04_PeriodMakes.j5 k t645 (decide (a0 > 4)) a1_0 a1_1 a1_2)))) else (none)) = some r := H
 have A3 := a0_ A30
 clear A30
 by_cases c4 : t515 = true
 ·subst c4
  have H1 : (if period_New.made a0 a1_0 a1_1 a1_2 = true then ((period_New_A.f k a0 a1_0 a1_1 a1_2).bind fun bt516 => (if a0 < 1 then (stipendlaw04_PeriodMakes.j0 k a0 bt516.2.2.2.2.2.2.2.2.2 true a1_0 a1_1 a1_2 bt516.1 bt516.2.1 bt516.2.2.1 bt516.2.2.2.1 bt516.2.2.2.2.1 bt516.2.2.2.2.2.1 bt516.2.2.2.2.2.2.1 bt516.2.2.2.2.2.2.2.1 bt516.2.2.2.2.2.2.2.2.1) else (stipendlaw04_PeriodMakes.j0 k a0 bt516.2.2.2.2.2.2.2.2.2 (decide (a0 > 4)) a1_0 a1_1 a1_2 bt516.1 bt516.2.1 bt516.2.2.1 bt516.2.2.2.1 bt516.2.2.2.2.1 bt516.2.2.2.2.2.1 bt516.2.2.2.2.2.2.1 bt516.2.2.2.2.2.2.2.1 bt516.2.2.2.2.2.2.2.2.1))) else ((period_New_B.f k a0 a1_0 a1_1 a1_2).bind fun t645 => (if a0 < 1 then (stipendlaw04_PeriodMakes.j5 k t645 true a1_0 a1_1 a1_2) else (stipendlaw04_PeriodMakes.j5 k t645 (decide (a0 > 4)) a1_0 a1_1 a1_2)))) = some r := by rw [if_pos rfl] at H; exact H
  clear H
  have H := H1
  clear H1
  by_cases c5 : period_New.made a0 a1_0 a1_1 a1_2 = true
  ·rw [if_pos c5] at H
   have c5b0 : period_New.made a0 a1_0 a1_1 a1_2 = true := c5
   clear c5
   replace H := oB_ H
   obtain ⟨⟨t516, t517, t518, t519, t520, t521, t522, t523, t524, t526⟩, A60, H⟩ := H
   replace H : (if a0 < 1 then (stipendlaw04_PeriodMakes.j0 k a0 t526 true a1_0 a1_1 a1_2 t516 t517 t518 t519 t520 t521 t522 t523 t524) else (stipendlaw04_PeriodMakes.j0 k a0 t526 (decide (a0 > 4)) a1_0 a1_1 a1_2 t516 t517 t518 t519 t520 t521 t522 t523 t524)) = some r := H
   have A6 := a0_ A60
   clear A60
   have HC7 := a0_ H
   clear H
   go_enter Try.func4, Try.ntmps4
   go_upto_region 4 with (first | ((with_reducible refine gate_dst (N := 3) rfl ?_); refine box_event ?hg (N := 3) ?hd (cs := #[.int .i64 a1_0, .int .i64 a1_1, .int .i64 a1_2]) (t := 23) ?hr ?_; (case hd => rfl); (case hg => rfl); (case hr => first | (go_simp; done) | (go_simp; rfl)); intro gb514 hg w8 hbox hb; have n0_ := a0_ (below_step (by repeat (first | (with_reducible first | exact HB.out | apply lA_ | apply lN_ | apply lD_) | exact HB.out)) hb); have n1_ := a0_ (hbox); have n2_ := a0_ ((by rw [hg]; exact (below_size (by repeat (first | (with_reducible first | exact HB.out | apply lA_ | apply lN_ | apply lD_) | exact HB.out))) : w.heap.size ≤ gb514)); have n3_ := a0_ ((by rw [hg]; exact (below_size (by repeat (first | (with_reducible first | exact HB.out | apply lA_ | apply lN_ | apply lD_) | exact HB.out))) : w.heap.size ≤ gb514)); clear HB; have HB := n0_; have BK514 := n1_; have GW514 := n2_; have GE514 := n3_; clear n0_ n1_ n2_ n3_; clear hb hbox hg) | ((with_reducible refine gate_callee (f := 20) rfl ?_); refine goesL_ (some 17) rfl rfl Try.func20 (by kernel_rfl) rfl #[] rfl (by (try simp only [List.map_toArray, List.map_cons, List.map_nil]); first | done | rfl) ?_; (with_reducible refine (stipendlaw04_cuts.calls k  true _ A3.out).mono ?_); rintro e w9 ⟨rfl, hb⟩; refine ⟨_, rfl, ?_⟩; have n0_ := a0_ (bB_ (g := gb514) (o := .cells #[.int .i64 a1_0, .int .i64 a1_1, .int .i64 a1_2] 23 (0, 0)) (by (with_reducible repeat first | apply bN_ | apply bD_ | apply bA_); exact BK514.out) hb); have n1_ := a0_ (below_step (by repeat (first | (with_reducible first | exact HB.out | apply lA_ | apply lN_ | apply lD_ | refine lS_ ?_ GE514.out) | exact HB.out)) hb); clear BK514; clear HB; have BK514 := n0_; have HB := n1_; clear n0_ n1_; (try clear hb); (try clear hb2); (try clear hk); (try clear hi); have hcz10_0 : w9.cell? ⟨gb514, 0, none⟩ = some (.int .i64 a1_0) := (bC_ BK514.out 0).trans rfl; have hcz10_1 : w9.cell? ⟨gb514, 1, none⟩ = some (.int .i64 a1_1) := (bC_ BK514.out 1).trans rfl; have hcz10_2 : w9.cell? ⟨gb514, 2, none⟩ = some (.int .i64 a1_2) := (bC_ BK514.out 2).trans rfl; have hfz10_0 := bF_ BK514.out 0; have hfz10_1 := bF_ BK514.out 1; have hfz10_2 := bF_ BK514.out 2) | ((with_reducible refine gate_callee (f := 12) rfl ?_); refine goesL_ (some 22) rfl rfl Try.func12 (by kernel_rfl) rfl #[.int .i64 a0, .agg #[.int .i64 a1_0, .int .i64 a1_1, .int .i64 a1_2]] rfl (by (try simp only [List.map_toArray, List.map_cons, List.map_nil]); first | done | rfl) ?_; (with_reducible refine (period_New_A.calls k a0 a1_0 a1_1 a1_2 t516 t517 t518 t519 t520 t521 t522 t523 t524 t526 w _ ?side1 A6.out).mono ?_); (case side1 => repeat (first | (with_reducible first | exact HB.out | apply lA_ | apply lN_ | apply lD_ | refine lS_ ?_ GE514.out) | exact HB.out)); rintro e w11 ⟨g525, rfl, hi, hb, hb2, hge⟩; refine ⟨_, rfl, ?_⟩; have n0_ := a0_ (bB_ (g := gb514) (o := .cells #[.int .i64 a1_0, .int .i64 a1_1, .int .i64 a1_2] 23 (0, 0)) (by (with_reducible repeat first | apply bN_ | apply bD_ | apply bA_); exact BK514.out) hb2); have n1_ := a0_ (hb); have n2_ := a0_ (hi); have n3_ := a0_ (IsS62.ne_blk hi (bB_ (g := gb514) (o := .cells #[.int .i64 a1_0, .int .i64 a1_1, .int .i64 a1_2] 23 (0, 0)) (by (with_reducible repeat first | apply bN_ | apply bD_ | apply bA_); exact BK514.out) hb2) (by decide)); have n4_ := a0_ (Ne.symm (IsS62.ne_blk hi (bB_ (g := gb514) (o := .cells #[.int .i64 a1_0, .int .i64 a1_1, .int .i64 a1_2] 23 (0, 0)) (by (with_reducible repeat first | apply bN_ | apply bD_ | apply bA_); exact BK514.out) hb2) (by decide))); clear BK514; clear HB; have BK514 := n0_; have HB := n1_; have HI525 := n2_; have NB525_514 := n3_; have NB514_525 := n4_; clear n0_ n1_ n2_ n3_ n4_; (try clear hb); (try clear hb2); (try clear hk); (try clear hi)))
   (try simp only [Act.put, zA_, zB_, zC_])
   go_cut [30] (fun v30 wc => ∃ (kq : Nat) (x30_6 : Bool), v30 = .bool x30_6 ∧ Aside0 (stipendlaw04_PeriodMakes.j0 kq a0 t526 x30_6 a1_0 a1_1 a1_2 t516 t517 t518 t519 t520 t521 t522 t523 t524 = some r) ∧ Aside0 (kq ≤ k) ∧ Aside0 (wc.heap[gb514]? = some (.cells #[.int .i64 a1_0, .int .i64 a1_1, .int .i64 a1_2] 23 (0, 0))) ∧ Aside0 (IsS62 w wc g525 t516 t517 t518 t519 t520 t521 t522 t523 t524) ∧ Aside0 (Below w.heap.size w wc))
   case first =>
    have H := HC7.out
    clear HC7
    by_cases c12 : a0 < 1
    ·rw [if_pos c12] at H
     have c12b0 : decide (a0 < 1) = true := decide_eq_true c12
     clear c12
     (first | rw [c12b0] | (simp only [i64_w, i32_w]; rw [c12b0]) | skip)
     have H' := a0_ H
     clear H
     go_wp2
     go_meet
     case rel => exact ⟨_, (true), (by first | rfl | (simp; done) | (simp [*]; done)), H', ⟨by first | omega | exact Nat.le_refl _⟩, ⟨by (with_reducible repeat first | apply bN_ | apply bD_ | apply bA_); exact BK514.out⟩, ⟨by repeat (first | (with_reducible first | exact HI525.out | apply sA_ | apply sN_ | apply sD_ | refine sF_ ?_ NB525_514.out _) | exact HI525.out)⟩, ⟨by repeat (first | (with_reducible first | exact HB.out | apply lA_ | apply lN_ | apply lD_ | refine lS_ ?_ (sG_ HI525.out) | refine lS_ ?_ GE514.out) | exact HB.out)⟩⟩
    ·rw [if_neg c12] at H
     have c12b0 : decide (a0 < 1) = false := decide_eq_false c12
     clear c12
     (first | rw [c12b0] | (simp only [i64_w, i32_w]; rw [c12b0]) | skip)
     have H' := a0_ H
     clear H
     go_wp2
     go_meet
     case rel => exact ⟨_, (decide (a0 > 4)), (by first | rfl | (simp; done) | (simp [*]; done)), H', ⟨by first | omega | exact Nat.le_refl _⟩, ⟨by (with_reducible repeat first | apply bN_ | apply bD_ | apply bA_); exact BK514.out⟩, ⟨by repeat (first | (with_reducible first | exact HI525.out | apply sA_ | apply sN_ | apply sD_ | refine sF_ ?_ NB525_514.out _) | exact HI525.out)⟩, ⟨by repeat (first | (with_reducible first | exact HB.out | apply lA_ | apply lN_ | apply lD_ | refine lS_ ?_ (sG_ HI525.out) | refine lS_ ?_ GE514.out) | exact HB.out)⟩⟩
   case rest =>
    clear HC7
    try clear p2
    try clear c4
    try clear c5
    try clear c5b0
    try clear c12
    try clear c12b0
    try clear hcz10_0
    try clear hcz10_1
    try clear hcz10_2
    try clear hfz10_0
    try clear hfz10_1
    try clear hfz10_2
    obtain ⟨kq, x30_6, rfl, HA, HJ6, BK514, HI525, HB⟩ := hcut
    cases kq with
    | zero => exact absurd HA.out (by simp [stipendlaw04_PeriodMakes.j0])
    | succ kj6 =>
     have H := HA.out
     clear HA
     simp only [stipendlaw04_PeriodMakes.j0] at H
     by_cases c13 : x30_6 = true
     ·subst c13
      have H1 : (none) = some r := by rw [if_pos rfl] at H; exact H
      clear H
      have H := H1
      clear H1
      exact absurd H (by simp)
     ·replace c13 := Bool.eq_false_iff.mpr c13
      subst c13
      have H1 : ((stipendref03_Months.f kj6 a1_0 a1_1 a1_2 12).bind fun bt527 => (if bt527.2.2.2 = true then (if a1_1 = 2 then (stipendlaw04_PeriodMakes.j1 kj6 a0 t526 (a1_2 == 29) a1_0 a1_1 a1_2 t516 t517 t518 t519 t520 t521 t522 t523 t524 bt527.1 bt527.2.1 bt527.2.2.1) else (stipendlaw04_PeriodMakes.j1 kj6 a0 t526 false a1_0 a1_1 a1_2 t516 t517 t518 t519 t520 t521 t522 t523 t524 bt527.1 bt527.2.1 bt527.2.2.1)) else (stipendlaw04_PeriodMakes.j1 kj6 a0 t526 true a1_0 a1_1 a1_2 t516 t517 t518 t519 t520 t521 t522 t523 t524 bt527.1 bt527.2.1 bt527.2.2.1))) = some r := by rw [if_neg (show ¬ (false = true) by decide)] at H; exact H
      clear H
      have H := H1
      clear H1
      replace H := oB_ H
      obtain ⟨⟨t527, t528, t529, t530⟩, A140, H⟩ := H
      replace H : (if t530 = true then (if a1_1 = 2 then (stipendlaw04_PeriodMakes.j1 kj6 a0 t526 (a1_2 == 29) a1_0 a1_1 a1_2 t516 t517 t518 t519 t520 t521 t522 t523 t524 t527 t528 t529) else (stipendlaw04_PeriodMakes.j1 kj6 a0 t526 false a1_0 a1_1 a1_2 t516 t517 t518 t519 t520 t521 t522 t523 t524 t527 t528 t529)) else (stipendlaw04_PeriodMakes.j1 kj6 a0 t526 true a1_0 a1_1 a1_2 t516 t517 t518 t519 t520 t521 t522 t523 t524 t527 t528 t529)) = some r := H
      have A14 := a0_ A140
      clear A140
      have HC15 := a0_ H
      clear H
      have hnb16 := NB514_525.out
      have hnc16 := NB525_514.out
      have hcz17_0 : wc.cell? ⟨gb514, 0, none⟩ = some (.int .i64 a1_0) := (bC_ BK514.out 0).trans rfl
      have hcz17_1 : wc.cell? ⟨gb514, 1, none⟩ = some (.int .i64 a1_1) := (bC_ BK514.out 1).trans rfl
      have hcz17_2 : wc.cell? ⟨gb514, 2, none⟩ = some (.int .i64 a1_2) := (bC_ BK514.out 2).trans rfl
      have hfz17_0 := bF_ BK514.out 0
      have hfz17_1 := bF_ BK514.out 1
      have hfz17_2 := bF_ BK514.out 2
      go_upto_region 7 with (first | ((with_reducible refine gate_callee (f := 21) rfl ?_); refine goesL_ (some 39) rfl rfl Try.func21 (by kernel_rfl) rfl #[.agg #[.int .i64 a1_0, .int .i64 a1_1, .int .i64 a1_2], .int .i64 12] rfl (by (try simp only [List.map_toArray, List.map_cons, List.map_nil]); first | done | rfl) ?_; (with_reducible refine (stipendref03_Months.calls kj6 a1_0 a1_1 a1_2 12 t527 t528 t529 t530 _ A14.out).mono ?_); rintro e w18 ⟨rfl, hb⟩; refine ⟨_, rfl, ?_⟩; have n0_ := a0_ (bB_ (g := gb514) (o := .cells #[.int .i64 a1_0, .int .i64 a1_1, .int .i64 a1_2] 23 (0, 0)) (by (with_reducible repeat first | apply bN_ | apply bD_ | apply bA_); exact BK514.out) hb); have n1_ := a0_ (IsS62.below (by repeat (first | (with_reducible first | exact HI525.out | apply sA_ | apply sN_ | apply sD_ | refine sF_ ?_ NB525_514.out _) | exact HI525.out)) hb); have n2_ := a0_ (below_step (by repeat (first | (with_reducible first | exact HB.out | apply lA_ | apply lN_ | apply lD_ | refine lS_ ?_ (sG_ HI525.out) | refine lS_ ?_ GE514.out) | exact HB.out)) hb); clear BK514; clear HI525; clear HB; have BK514 := n0_; have HI525 := n1_; have HB := n2_; clear n0_ n1_ n2_; (try clear hb); (try clear hb2); (try clear hk); (try clear hi)) | ((with_reducible refine gate_dst (N := 7) rfl ?_); refine box_event ?hg (N := 7) ?hd (cs := #[.int .i64 0, .int .i64 0, .int .i64 0]) (t := 23) ?hr ?_; (case hd => rfl); (case hg => rfl); (case hr => first | (go_simp; done) | (go_simp; rfl)); intro gb531 hg w19 hbox hb; have n0_ := a0_ (bB_ (g := gb514) (o := .cells #[.int .i64 a1_0, .int .i64 a1_1, .int .i64 a1_2] 23 (0, 0)) (by (with_reducible repeat first | apply bN_ | apply bD_ | apply bA_); exact BK514.out) hb); have n1_ := a0_ (IsS62.below (by repeat (first | (with_reducible first | exact HI525.out | apply sA_ | apply sN_ | apply sD_ | refine sF_ ?_ NB525_514.out _) | exact HI525.out)) hb); have n2_ := a0_ (below_step (by repeat (first | (with_reducible first | exact HB.out | apply lA_ | apply lN_ | apply lD_ | refine lS_ ?_ (sG_ HI525.out) | refine lS_ ?_ GE514.out) | exact HB.out)) hb); have n3_ := a0_ (hbox); have n4_ := a0_ ((by rw [hg]; exact (below_size (by repeat (first | (with_reducible first | exact HB.out | apply lA_ | apply lN_ | apply lD_ | refine lS_ ?_ (sG_ HI525.out) | refine lS_ ?_ GE514.out) | exact HB.out))) : w.heap.size ≤ gb531)); have n5_ := a0_ ((by rw [hg]; exact (below_size (by repeat (first | (with_reducible first | exact HB.out | apply lA_ | apply lN_ | apply lD_ | refine lS_ ?_ (sG_ HI525.out) | refine lS_ ?_ GE514.out) | exact HB.out))) : w.heap.size ≤ gb531)); have n6_ := a0_ ((by rw [hg]; exact Nat.ne_of_lt (blk_lt (g := gb514) (o := .cells #[.int .i64 a1_0, .int .i64 a1_1, .int .i64 a1_2] 23 (0, 0)) (by (with_reducible repeat first | apply bN_ | apply bD_ | apply bA_); exact BK514.out)) : gb514 ≠ gb531)); have n7_ := a0_ ((by rw [hg]; exact Nat.ne_of_gt (blk_lt (g := gb514) (o := .cells #[.int .i64 a1_0, .int .i64 a1_1, .int .i64 a1_2] 23 (0, 0)) (by (with_reducible repeat first | apply bN_ | apply bD_ | apply bA_); exact BK514.out)) : gb531 ≠ gb514)); have n8_ := a0_ ((by rw [hg]; exact Nat.ne_of_lt (IsS62.lt (show IsS62 w _ g525 t516 t517 t518 t519 t520 t521 t522 t523 t524 from by repeat (first | (with_reducible first | exact HI525.out | apply sA_ | apply sN_ | apply sD_ | refine sF_ ?_ NB525_514.out _) | exact HI525.out))) : g525 ≠ gb531)); have n9_ := a0_ ((by rw [hg]; exact Nat.ne_of_gt (IsS62.lt (show IsS62 w _ g525 t516 t517 t518 t519 t520 t521 t522 t523 t524 from by repeat (first | (with_reducible first | exact HI525.out | apply sA_ | apply sN_ | apply sD_ | refine sF_ ?_ NB525_514.out _) | exact HI525.out))) : gb531 ≠ g525)); clear BK514; clear HI525; clear HB; have BK514 := n0_; have HI525 := n1_; have HB := n2_; have BK531 := n3_; have GW531 := n4_; have GE531 := n5_; have NB514_531 := n6_; have NB531_514 := n7_; have NB525_531 := n8_; have NB531_525 := n9_; clear n0_ n1_ n2_ n3_ n4_ n5_ n6_ n7_ n8_ n9_; clear hb hbox hg; have hnb20 := NB531_514.out; have hnc20 := NB514_531.out; have hnb21 := NB531_525.out; have hnc21 := NB525_531.out; have hcz22_0 : w19.cell? ⟨gb531, 0, none⟩ = some (.int .i64 0) := (bC_ BK531.out 0).trans rfl; have hcz22_1 : w19.cell? ⟨gb531, 1, none⟩ = some (.int .i64 0) := (bC_ BK531.out 1).trans rfl; have hcz22_2 : w19.cell? ⟨gb531, 2, none⟩ = some (.int .i64 0) := (bC_ BK531.out 2).trans rfl; have hfz22_0 := bF_ BK531.out 0; have hfz22_1 := bF_ BK531.out 1; have hfz22_2 := bF_ BK531.out 2))
      (try simp only [Act.put, zA_, zB_, zC_])
      go_cut [53] (fun v53 wc => ∃ (kq : Nat) (x53_14 : Bool), v53 = .bool x53_14 ∧ Aside0 (stipendlaw04_PeriodMakes.j1 kq a0 t526 x53_14 a1_0 a1_1 a1_2 t516 t517 t518 t519 t520 t521 t522 t523 t524 t527 t528 t529 = some r) ∧ Aside0 (kq ≤ kj6) ∧ Aside0 (wc.heap[gb514]? = some (.cells #[.int .i64 a1_0, .int .i64 a1_1, .int .i64 a1_2] 23 (0, 0))) ∧ Aside0 (wc.heap[gb531]? = some (.cells #[.int .i64 t527, .int .i64 t528, .int .i64 t529] 23 (0, 0))) ∧ Aside0 (IsS62 w wc g525 t516 t517 t518 t519 t520 t521 t522 t523 t524) ∧ Aside0 (Below w.heap.size w wc))
      case first =>
       have H := HC15.out
       clear HC15
       by_cases c23 : t530 = true
       ·subst c23
        have H1 : (if a1_1 = 2 then (stipendlaw04_PeriodMakes.j1 kj6 a0 t526 (a1_2 == 29) a1_0 a1_1 a1_2 t516 t517 t518 t519 t520 t521 t522 t523 t524 t527 t528 t529) else (stipendlaw04_PeriodMakes.j1 kj6 a0 t526 false a1_0 a1_1 a1_2 t516 t517 t518 t519 t520 t521 t522 t523 t524 t527 t528 t529)) = some r := by rw [if_pos rfl] at H; exact H
        clear H
        have H := H1
        clear H1
        by_cases c24 : a1_1 = 2
        ·rw [if_pos c24] at H
         have c24b0 : (a1_1 == 2) = true := beq_iff_eq.mpr c24
         have c24b1 : (a1_1 != 2) = false := bne_eq_false_iff_eq.mpr c24
         clear c24
         (first | rw [c24b0] | (simp only [i64_w, i32_w]; rw [c24b0]) | skip)
         have H' := a0_ H
         clear H
         have hnb25 := NB514_531.out
         have hnc25 := NB531_514.out
         have hnb26 := NB514_525.out
         have hnc26 := NB525_514.out
         have hcz27_0 : w19.cell? ⟨gb514, 0, none⟩ = some (.int .i64 a1_0) := (bC_ BK514.out 0).trans rfl
         have hcz27_1 : w19.cell? ⟨gb514, 1, none⟩ = some (.int .i64 a1_1) := (bC_ BK514.out 1).trans rfl
         have hcz27_2 : w19.cell? ⟨gb514, 2, none⟩ = some (.int .i64 a1_2) := (bC_ BK514.out 2).trans rfl
         have hfz27_0 := bF_ BK514.out 0
         have hfz27_1 := bF_ BK514.out 1
         have hfz27_2 := bF_ BK514.out 2
         go_wp2
         go_meet
         case rel => exact ⟨_, ((a1_2 == 29)), (by first | rfl | (simp; done) | (simp [*]; done)), H', ⟨by have := HJ6.out; first | omega | exact Nat.le_refl _⟩, ⟨by (with_reducible repeat first | apply bN_ | apply bD_ | apply bA_); refine blk_far ?_ NB514_531.out _; (with_reducible repeat first | apply bN_ | apply bD_ | apply bA_); refine blk_far ?_ NB514_531.out _; (with_reducible repeat first | apply bN_ | apply bD_ | apply bA_); refine blk_far ?_ NB514_531.out _; (with_reducible repeat first | apply bN_ | apply bD_ | apply bA_); exact BK514.out⟩, ⟨by (with_reducible repeat first | apply bN_ | apply bD_ | apply bA_); refine blk_put (cs := #[.int .i64 t527, .int .i64 t528, .int .i64 0]) ?_ 2 _ rfl; (with_reducible repeat first | apply bN_ | apply bD_ | apply bA_); refine blk_put (cs := #[.int .i64 t527, .int .i64 0, .int .i64 0]) ?_ 1 _ rfl; (with_reducible repeat first | apply bN_ | apply bD_ | apply bA_); refine blk_put (cs := #[.int .i64 0, .int .i64 0, .int .i64 0]) ?_ 0 _ rfl; (with_reducible repeat first | apply bN_ | apply bD_ | apply bA_); exact BK531.out⟩, ⟨by repeat (first | (with_reducible first | exact HI525.out | apply sA_ | apply sN_ | apply sD_ | refine sF_ ?_ NB525_514.out _ | refine sF_ ?_ NB525_531.out _) | exact HI525.out)⟩, ⟨by repeat (first | (with_reducible first | exact HB.out | apply lA_ | apply lN_ | apply lD_ | refine lS_ ?_ (sG_ HI525.out) | refine lS_ ?_ GE514.out | refine lS_ ?_ GE531.out) | exact HB.out)⟩⟩
        ·rw [if_neg c24] at H
         have c24b0 : (a1_1 == 2) = false := beq_eq_false_iff_ne.mpr c24
         have c24b1 : (a1_1 != 2) = true := bne_iff_ne.mpr c24
         (first | rw [c24b0] | (simp only [i64_w, i32_w]; rw [c24b0]) | skip)
         have H' := a0_ H
         clear H
         have hnb28 := NB514_531.out
         have hnc28 := NB531_514.out
         have hnb29 := NB514_525.out
         have hnc29 := NB525_514.out
         have hcz30_0 : w19.cell? ⟨gb514, 0, none⟩ = some (.int .i64 a1_0) := (bC_ BK514.out 0).trans rfl
         have hcz30_1 : w19.cell? ⟨gb514, 1, none⟩ = some (.int .i64 a1_1) := (bC_ BK514.out 1).trans rfl
         have hcz30_2 : w19.cell? ⟨gb514, 2, none⟩ = some (.int .i64 a1_2) := (bC_ BK514.out 2).trans rfl
         have hfz30_0 := bF_ BK514.out 0
         have hfz30_1 := bF_ BK514.out 1
         have hfz30_2 := bF_ BK514.out 2
         go_wp2
         go_meet
         case rel => exact ⟨_, (false), (by first | rfl | (simp; done) | (simp [*]; done)), H', ⟨by have := HJ6.out; first | omega | exact Nat.le_refl _⟩, ⟨by (with_reducible repeat first | apply bN_ | apply bD_ | apply bA_); refine blk_far ?_ NB514_531.out _; (with_reducible repeat first | apply bN_ | apply bD_ | apply bA_); refine blk_far ?_ NB514_531.out _; (with_reducible repeat first | apply bN_ | apply bD_ | apply bA_); refine blk_far ?_ NB514_531.out _; (with_reducible repeat first | apply bN_ | apply bD_ | apply bA_); exact BK514.out⟩, ⟨by (with_reducible repeat first | apply bN_ | apply bD_ | apply bA_); refine blk_put (cs := #[.int .i64 t527, .int .i64 t528, .int .i64 0]) ?_ 2 _ rfl; (with_reducible repeat first | apply bN_ | apply bD_ | apply bA_); refine blk_put (cs := #[.int .i64 t527, .int .i64 0, .int .i64 0]) ?_ 1 _ rfl; (with_reducible repeat first | apply bN_ | apply bD_ | apply bA_); refine blk_put (cs := #[.int .i64 0, .int .i64 0, .int .i64 0]) ?_ 0 _ rfl; (with_reducible repeat first | apply bN_ | apply bD_ | apply bA_); exact BK531.out⟩, ⟨by repeat (first | (with_reducible first | exact HI525.out | apply sA_ | apply sN_ | apply sD_ | refine sF_ ?_ NB525_514.out _ | refine sF_ ?_ NB525_531.out _) | exact HI525.out)⟩, ⟨by repeat (first | (with_reducible first | exact HB.out | apply lA_ | apply lN_ | apply lD_ | refine lS_ ?_ (sG_ HI525.out) | refine lS_ ?_ GE514.out | refine lS_ ?_ GE531.out) | exact HB.out)⟩⟩
       ·replace c23 := Bool.eq_false_iff.mpr c23
        subst c23
        have H1 : (stipendlaw04_PeriodMakes.j1 kj6 a0 t526 true a1_0 a1_1 a1_2 t516 t517 t518 t519 t520 t521 t522 t523 t524 t527 t528 t529) = some r := by rw [if_neg (show ¬ (false = true) by decide)] at H; exact H
        clear H
        have H := H1
        clear H1
        have H' := a0_ H
        clear H
        go_wp2
        go_meet
        case rel => exact ⟨_, (true), (by first | rfl | (simp; done) | (simp [*]; done)), H', ⟨by have := HJ6.out; first | omega | exact Nat.le_refl _⟩, ⟨by (with_reducible repeat first | apply bN_ | apply bD_ | apply bA_); refine blk_far ?_ NB514_531.out _; (with_reducible repeat first | apply bN_ | apply bD_ | apply bA_); refine blk_far ?_ NB514_531.out _; (with_reducible repeat first | apply bN_ | apply bD_ | apply bA_); refine blk_far ?_ NB514_531.out _; (with_reducible repeat first | apply bN_ | apply bD_ | apply bA_); exact BK514.out⟩, ⟨by (with_reducible repeat first | apply bN_ | apply bD_ | apply bA_); refine blk_put (cs := #[.int .i64 t527, .int .i64 t528, .int .i64 0]) ?_ 2 _ rfl; (with_reducible repeat first | apply bN_ | apply bD_ | apply bA_); refine blk_put (cs := #[.int .i64 t527, .int .i64 0, .int .i64 0]) ?_ 1 _ rfl; (with_reducible repeat first | apply bN_ | apply bD_ | apply bA_); refine blk_put (cs := #[.int .i64 0, .int .i64 0, .int .i64 0]) ?_ 0 _ rfl; (with_reducible repeat first | apply bN_ | apply bD_ | apply bA_); exact BK531.out⟩, ⟨by repeat (first | (with_reducible first | exact HI525.out | apply sA_ | apply sN_ | apply sD_ | refine sF_ ?_ NB525_514.out _ | refine sF_ ?_ NB525_531.out _) | exact HI525.out)⟩, ⟨by repeat (first | (with_reducible first | exact HB.out | apply lA_ | apply lN_ | apply lD_ | refine lS_ ?_ (sG_ HI525.out) | refine lS_ ?_ GE514.out | refine lS_ ?_ GE531.out) | exact HB.out)⟩⟩
      case rest =>
       clear HC15
       try clear p2
       try clear c4
       try clear c5
       try clear c5b0
       try clear c12
       try clear c12b0
       try clear c13
       try clear c23
       try clear c24
       try clear c24b0
       try clear c24b1
       try clear hcz10_0
       try clear hcz10_1
       try clear hcz10_2
       try clear hcz17_0
       try clear hcz17_1
       try clear hcz17_2
       try clear hcz22_0
       try clear hcz22_1
       try clear hcz22_2
       try clear hcz27_0
       try clear hcz27_1
       try clear hcz27_2
       try clear hcz30_0
       try clear hcz30_1
       try clear hcz30_2
       try clear hfz10_0
       try clear hfz10_1
       try clear hfz10_2
       try clear hfz17_0
       try clear hfz17_1
       try clear hfz17_2
       try clear hfz22_0
       try clear hfz22_1
       try clear hfz22_2
       try clear hfz27_0
       try clear hfz27_1
       try clear hfz27_2
       try clear hfz30_0
       try clear hfz30_1
       try clear hfz30_2
       try clear p2
       obtain ⟨kq, x53_14, rfl, HA, HJ14, BK514, BK531, HI525, HB⟩ := hcut
       cases kq with
       | zero => exact absurd HA.out (by simp [stipendlaw04_PeriodMakes.j1])
       | succ kj14 =>
        have H := HA.out
        clear HA
        simp only [stipendlaw04_PeriodMakes.j1] at H
        by_cases c31 : x53_14 = true
        ·subst c31
         have H1 : (none) = some r := by rw [if_pos rfl] at H; exact H
         clear H
         have H := H1
         clear H1
         exact absurd H (by simp)
        ·replace c31 := Bool.eq_false_iff.mpr c31
         subst c31
         have H1 : (if t526 = 0 then ((period_Year_Start.f t516 t517 t518 t519 t520 t521 t522 t523 t524).bind fun bt532 => (if (!(bt532.1 == a1_0) || (!(bt532.2.1 == a1_1) || (!(bt532.2.2.1 == a1_2)))) = true then (stipendlaw04_PeriodMakes.j2 kj14 a0 true a1_0 a1_1 a1_2 bt532.2.2.2.1 bt532.2.2.2.2.1 bt532.2.2.2.2.2.1 bt532.2.2.2.2.2.2.1 bt532.2.2.2.2.2.2.2.1 bt532.2.2.2.2.2.2.2.2.1 bt532.2.2.2.2.2.2.2.2.2.1 bt532.2.2.2.2.2.2.2.2.2.2.1 bt532.2.2.2.2.2.2.2.2.2.2.2 t527 t528 t529) else ((period_Year_Freq.f bt532.2.2.2.1 bt532.2.2.2.2.1 bt532.2.2.2.2.2.1 bt532.2.2.2.2.2.2.1 bt532.2.2.2.2.2.2.2.1 bt532.2.2.2.2.2.2.2.2.1 bt532.2.2.2.2.2.2.2.2.2.1 bt532.2.2.2.2.2.2.2.2.2.2.1 bt532.2.2.2.2.2.2.2.2.2.2.2).bind fun bt544 => (stipendlaw04_PeriodMakes.j2 kj14 a0 (bt544.1 != a0) a1_0 a1_1 a1_2 bt544.2.1 bt544.2.2.1 bt544.2.2.2.1 bt544.2.2.2.2.1 bt544.2.2.2.2.2.1 bt544.2.2.2.2.2.2.1 bt544.2.2.2.2.2.2.2.1 bt544.2.2.2.2.2.2.2.2.1 bt544.2.2.2.2.2.2.2.2.2 t527 t528 t529)))) else (stipendlaw04_PeriodMakes.j2 kj14 a0 true a1_0 a1_1 a1_2 t516 t517 t518 t519 t520 t521 t522 t523 t524 t527 t528 t529)) = some r := by rw [if_neg (show ¬ (false = true) by decide)] at H; exact H
         clear H
         have H := H1
         clear H1
         have HC32 := a0_ H
         clear H
         go_upto_region 9 with (fail)
         go_cut [77] (fun v77 wc => ∃ (kq : Nat) (x77_31 : Bool) (x526000_31 : Int) (x526001_31 : Int) (x526002_31 : Int) (x526003_31 : Int) (x526004_31 : Int) (x526005_31 : Int) (x526006_31 : Int) (x526007_31 : Int) (x526008_31 : Int), v77 = .bool x77_31 ∧ Aside0 (stipendlaw04_PeriodMakes.j2 kq a0 x77_31 a1_0 a1_1 a1_2 x526000_31 x526001_31 x526002_31 x526003_31 x526004_31 x526005_31 x526006_31 x526007_31 x526008_31 t527 t528 t529 = some r) ∧ Aside0 (kq ≤ kj14) ∧ Aside0 (wc.heap[gb514]? = some (.cells #[.int .i64 a1_0, .int .i64 a1_1, .int .i64 a1_2] 23 (0, 0))) ∧ Aside0 (wc.heap[gb531]? = some (.cells #[.int .i64 t527, .int .i64 t528, .int .i64 t529] 23 (0, 0))) ∧ Aside0 (IsS62 w wc g525 x526000_31 x526001_31 x526002_31 x526003_31 x526004_31 x526005_31 x526006_31 x526007_31 x526008_31) ∧ Aside0 (Below w.heap.size w wc))
         case first =>
          have H := HC32.out
          clear HC32
          by_cases c33 : t526 = 0
          ·rw [if_pos c33] at H
           have c33b0 : (t526 == 0) = true := beq_iff_eq.mpr c33
           have c33b1 : (t526 != 0) = false := bne_eq_false_iff_eq.mpr c33
           clear c33
           (first | rw [c33b0] | (simp only [i64_w, i32_w]; rw [c33b0]) | skip)
           replace H := oB_ H
           obtain ⟨⟨t532, t533, t534, t535, t536, t537, t538, t539, t540, t541, t542, t543⟩, A340, H⟩ := H
           replace H : (if (!(t532 == a1_0) || (!(t533 == a1_1) || (!(t534 == a1_2)))) = true then (stipendlaw04_PeriodMakes.j2 kj14 a0 true a1_0 a1_1 a1_2 t535 t536 t537 t538 t539 t540 t541 t542 t543 t527 t528 t529) else ((period_Year_Freq.f t535 t536 t537 t538 t539 t540 t541 t542 t543).bind fun bt544 => (stipendlaw04_PeriodMakes.j2 kj14 a0 (bt544.1 != a0) a1_0 a1_1 a1_2 bt544.2.1 bt544.2.2.1 bt544.2.2.2.1 bt544.2.2.2.2.1 bt544.2.2.2.2.2.1 bt544.2.2.2.2.2.2.1 bt544.2.2.2.2.2.2.2.1 bt544.2.2.2.2.2.2.2.2.1 bt544.2.2.2.2.2.2.2.2.2 t527 t528 t529))) = some r := H
           have A34 := a0_ A340
           clear A340
           by_cases c35 : (!(t532 == a1_0) || (!(t533 == a1_1) || (!(t534 == a1_2)))) = true
           ·rw [if_pos c35] at H
            have c35b0 : (!(t532 == a1_0) || (!(t533 == a1_1) || (!(t534 == a1_2)))) = true := c35
            clear c35
            have H' := a0_ H
            clear H
            try go_wp2
            have n0_ := a0_ (bD_ BK514.out)
            have n1_ := a0_ (bD_ BK531.out)
            have n2_ := a0_ (sD_ HI525.out)
            have n3_ := a0_ (lD_ HB.out)
            clear BK514
            clear BK531
            clear HI525
            clear HB
            have BK514 := n0_
            have BK531 := n1_
            have HI525 := n2_
            have HB := n3_
            clear n0_ n1_ n2_ n3_
            refine start_ (n := 18) (S := fun w' => w'.cell? ⟨gb514, 0, none⟩ = some (.int .i64 a1_0) ∧ w'.cell? ⟨gb514, 1, none⟩ = some (.int .i64 a1_1) ∧ w'.cell? ⟨gb514, 2, none⟩ = some (.int .i64 a1_2)) (ds := []) #[false, false, false, false, false, false, false, false, false, false, false, false, false, false, false, false, false, false] (by kernel_rfl) rfl rfl ⟨(bC_ BK514.out 0).trans rfl, (bC_ BK514.out 1).trans rfl, (bC_ BK514.out 2).trans rfl⟩ (fun hHeld => ?_); refine with_tabW stipendlaw04_PeriodMakes.tab9 stipendlaw04_PeriodMakes.bits9 (fun HT_ HW_ => ?_)
            generalize wc.drew = w36 at BK514 BK531 HI525 HB hHeld ⊢
            refine pure_ (i := 0) (N := some 60) (v := ?_) (a' := ?_) #[true, false, false, false, false, false, false, false, false, false, false, false, false, false, false, false, false, false] rfl rfl (any_of HT_.out (by kernel_rfl)) (fun _ _ _ h => h) (Or.inl ⟨by rfl, ?_⟩) ?_ ?_
            rotate_left
            ·intro w'
             go_simp
             with_reducible rfl
            rotate_left
            ·simp only [Act.put, zA_, zB_, zC_, i64_w, i32_w]
             rfl
            refine pure_ (i := 1) (N := some 61) (v := ?_) (a' := ?_) #[true, true, false, false, false, false, false, false, false, false, false, false, false, false, false, false, false, false] rfl rfl (any_of HT_.out (by kernel_rfl)) (fun _ _ _ h => h) (Or.inl ⟨by rfl, ?_⟩) ?_ ?_
            rotate_left
            ·intro w'
             go_simp
             with_reducible rfl
            rotate_left
            ·simp only [Act.put, zA_, zB_, zC_, i64_w, i32_w]
             rfl
            refine pure_ (i := 2) (N := some 62) (v := ?_) (a' := ?_) #[true, true, true, false, false, false, false, false, false, false, false, false, false, false, false, false, false, false] rfl rfl (any_of HT_.out (by kernel_rfl)) (fun _ _ _ h => h) (Or.inl ⟨by rfl, ?_⟩) ?_ ?_
            rotate_left
            ·intro w'
             go_simp
             with_reducible rfl
            rotate_left
            ·simp only [Act.put, zA_, zB_, zC_, i64_w, i32_w]
             rfl
            refine pure_ (i := 3) (N := some 63) (v := ?_) (a' := ?_) #[true, true, true, true, false, false, false, false, false, false, false, false, false, false, false, false, false, false] rfl rfl (any_of HT_.out (by kernel_rfl)) (fun _ _ _ h => h) (Or.inl ⟨by rfl, ?_⟩) ?_ ?_
            rotate_left
            ·intro w'
             go_simp
             with_reducible rfl
            rotate_left
            ·simp only [Act.put, zA_, zB_, zC_, i64_w, i32_w]
             rfl
            refine pure_ (i := 4) (N := some 64) (v := ?_) (a' := ?_) #[true, true, true, true, true, false, false, false, false, false, false, false, false, false, false, false, false, false] rfl rfl (any_of HT_.out (by kernel_rfl)) (fun _ _ _ h => h) (Or.inl ⟨by rfl, ?_⟩) ?_ ?_
            rotate_left
            ·intro w'
             go_simp
             with_reducible rfl
            rotate_left
            ·simp only [Act.put, zA_, zB_, zC_, i64_w, i32_w]
             rfl
            refine pure_ (i := 5) (N := some 65) (v := ?_) (a' := ?_) #[true, true, true, true, true, true, false, false, false, false, false, false, false, false, false, false, false, false] rfl rfl (any_of HT_.out (by kernel_rfl)) (fun _ _ _ h => h) (Or.inl ⟨by rfl, ?_⟩) ?_ ?_
            rotate_left
            ·intro w'
             go_simp
             with_reducible rfl
            rotate_left
            ·simp only [Act.put, zA_, zB_, zC_, i64_w, i32_w]
             rfl
            refine pure_ (i := 6) (N := some 66) (v := ?_) (a' := ?_) #[true, true, true, true, true, true, true, false, false, false, false, false, false, false, false, false, false, false] rfl rfl (any_of HT_.out (by kernel_rfl)) (fun _ _ _ h => h) (Or.inl ⟨by rfl, ?_⟩) ?_ ?_
            rotate_left
            ·intro w'
             go_simp
             with_reducible rfl
            rotate_left
            ·simp only [Act.put, zA_, zB_, zC_, i64_w, i32_w]
             rfl
            refine pure_ (i := 7) (N := some 67) (v := ?_) (a' := ?_) #[true, true, true, true, true, true, true, true, false, false, false, false, false, false, false, false, false, false] rfl rfl (any_of HT_.out (by kernel_rfl)) (fun _ _ _ h => h) (Or.inl ⟨by rfl, ?_⟩) ?_ ?_
            rotate_left
            ·intro w'
             go_simp
             with_reducible rfl
            rotate_left
            ·simp only [Act.put, zA_, zB_, zC_, i64_w, i32_w]
             rfl
            refine take_ (i := 9) (N := some 69) (v := ?_) (a' := ?_) #[true, true, true, true, true, true, true, true, false, true, false, false, false, false, false, false, false, false] rfl rfl (take_ofW HT_.out HW_.out (by kernel_rfl)) (fun _ _ _ h => h) (Or.inl ⟨by rfl, ?_⟩) hHeld ?_ ?_
            rotate_left
            ·rintro w' ⟨s0, s1, s2⟩
             go_simp
             with_reducible rfl
            rotate_left
            ·simp only [Act.put, zA_, zB_, zC_, i64_w, i32_w]
             rfl
            refine one_ (i := 8) (N := some 68) #[true, true, true, true, true, true, true, true, true, true, false, false, false, false, false, false, false, false] rfl rfl (one_of HT_.out (by kernel_rfl)) (by decide) (fun K hK => ?_)
            refine goes_ Try.func17 (by kernel_rfl) rfl #[.pointer (some ⟨g525, 0, none⟩)] (by rfl) rfl rfl (by (try simp only [List.map_toArray, List.map_cons, List.map_nil]); first | done | rfl) ?_
            with_reducible refine (period_Year_Start.calls g525 t516 t517 t518 t519 t520 t521 t522 t523 t524 t532 t533 t534 t535 t536 t537 t538 t539 t540 t541 t542 t543 w _ ?side1 ?side2 A34.out).mono ?_
            (case side1 => repeat (first | (with_reducible first | exact HI525.out | apply sA_ | apply sN_ | apply sD_ | refine sF_ ?_ NB525_514.out _ | refine sF_ ?_ NB525_531.out _) | exact HI525.out))
            (case side2 => repeat (first | (with_reducible first | exact HB.out | apply lA_ | apply lN_ | apply lD_ | refine lS_ ?_ (sG_ HI525.out) | refine lS_ ?_ GE514.out | refine lS_ ?_ GE531.out) | exact HB.out))
            rintro e w37 ⟨rfl, hi, hb, hk⟩
            refine ⟨_, rfl, ?_⟩
            have n0_ := a0_ (KeepBut.blk hk (g' := gb514) (o := .cells #[.int .i64 a1_0, .int .i64 a1_1, .int .i64 a1_2] 23 (0, 0)) (by (with_reducible repeat first | apply bN_ | apply bD_ | apply bA_); exact BK514.out) NB514_525.out (by simp))
            have n1_ := a0_ (KeepBut.blk hk (g' := gb531) (o := .cells #[.int .i64 t527, .int .i64 t528, .int .i64 t529] 23 (0, 0)) (by (with_reducible repeat first | apply bN_ | apply bD_ | apply bA_); exact BK531.out) NB531_525.out (by simp))
            have n2_ := a0_ (hb)
            have n3_ := a0_ (hi)
            clear BK514
            clear BK531
            clear HB
            clear HI525
            have BK514 := n0_
            have BK531 := n1_
            have HB := n2_
            have HI525 := n3_
            clear n0_ n1_ n2_ n3_
            (try clear hb)
            (try clear hb2)
            (try clear hk)
            (try clear hi)
            refine hK.out _ _ ⟨(bC_ BK514.out 0).trans rfl, (bC_ BK514.out 1).trans rfl, (bC_ BK514.out 2).trans rfl⟩ (fun hHeld => ?_)
            clear hK K
            refine norm_ (a' := ?_) ?_ ?_
            rotate_left
            ·show Act.put _ (some 68) _ = _
             simp only [Act.put, zA_, zB_, zC_, i64_w, i32_w]
             rfl
            refine pure_ (i := 10) (N := some 70) (v := ?_) (a' := ?_) #[true, true, true, true, true, true, true, true, true, true, true, false, false, false, false, false, false, false] rfl rfl (any_of HT_.out (by kernel_rfl)) (fun _ _ _ h => h) (Or.inl ⟨by rfl, ?_⟩) ?_ ?_
            rotate_left
            ·intro w'
             go_simp
             with_reducible rfl
            rotate_left
            ·simp only [Act.put, zA_, zB_, zC_, i64_w, i32_w]
             rfl
            refine pure_ (i := 11) (N := some 71) (v := ?_) (a' := ?_) #[true, true, true, true, true, true, true, true, true, true, true, true, false, false, false, false, false, false] rfl rfl (any_of HT_.out (by kernel_rfl)) (fun _ _ _ h => h) (Or.inl ⟨by rfl, ?_⟩) ?_ ?_
            rotate_left
            ·intro w'
             go_simp
             with_reducible rfl
            rotate_left
            ·simp only [Act.put, zA_, zB_, zC_, i64_w, i32_w]
             rfl
            refine pure_ (i := 12) (N := some 72) (v := ?_) (a' := ?_) #[true, true, true, true, true, true, true, true, true, true, true, true, true, false, false, false, false, false] rfl rfl (any_of HT_.out (by kernel_rfl)) (fun _ _ _ h => h) (Or.inl ⟨by rfl, ?_⟩) ?_ ?_
            rotate_left
            ·intro w'
             go_simp
             with_reducible rfl
            rotate_left
            ·simp only [Act.put, zA_, zB_, zC_, i64_w, i32_w]
             rfl
            refine pure_ (i := 13) (N := some 73) (v := undef) (a' := ?_) #[true, true, true, true, true, true, true, true, true, true, true, true, true, true, false, false, false, false] rfl rfl (any_of HT_.out (by kernel_rfl)) (fun _ _ _ h => h) (Or.inr ⟨by rfl, rfl⟩) ?_ ?_
            rotate_left
            ·simp only [Act.put, zA_, zB_, zC_, i64_w, i32_w]
             rfl
            refine pure_ (i := 14) (N := some 74) (v := undef) (a' := ?_) #[true, true, true, true, true, true, true, true, true, true, true, true, true, true, true, false, false, false] rfl rfl (any_of HT_.out (by kernel_rfl)) (fun _ _ _ h => h) (Or.inr ⟨by rfl, rfl⟩) ?_ ?_
            rotate_left
            ·simp only [Act.put, zA_, zB_, zC_, i64_w, i32_w]
             rfl
            refine pure_ (i := 15) (N := some 75) (v := undef) (a' := ?_) #[true, true, true, true, true, true, true, true, true, true, true, true, true, true, true, true, false, false] rfl rfl (any_of HT_.out (by kernel_rfl)) (fun _ _ _ h => h) (Or.inr ⟨by rfl, rfl⟩) ?_ ?_
            rotate_left
            ·simp only [Act.put, zA_, zB_, zC_, i64_w, i32_w]
             rfl
            refine pure_ (i := 16) (N := some 76) (v := undef) (a' := ?_) #[true, true, true, true, true, true, true, true, true, true, true, true, true, true, true, true, true, false] rfl rfl (any_of HT_.out (by kernel_rfl)) (fun _ _ _ h => h) (Or.inr ⟨by rfl, rfl⟩) ?_ ?_
            rotate_left
            ·simp only [Act.put, zA_, zB_, zC_, i64_w, i32_w]
             rfl
            refine pure_ (i := 17) (N := some 77) (v := ?_) (a' := ?_) #[true, true, true, true, true, true, true, true, true, true, true, true, true, true, true, true, true, true] rfl rfl (any_of HT_.out (by kernel_rfl)) (fun _ _ _ h => h) (Or.inl ⟨by rfl, ?_⟩) ?_ ?_
            rotate_left
            ·intro w'
             go_simp
             with_reducible rfl
            rotate_left
            ·simp only [Act.put, zA_, zB_, zC_, i64_w, i32_w]
             rfl
            refine done_ (done_of HT_.out (by kernel_rfl)) ?_
            try go_wp2
            go_meet
            case rel => exact ⟨_, (true), (t535), (t536), (t537), (t538), (t539), (t540), (t541), (t542), (t543), (by first | rfl | (simp; done) | (simp [*]; done)), H', ⟨by have := HJ6.out; have := HJ14.out; first | omega | exact Nat.le_refl _⟩, ⟨by (with_reducible repeat first | apply bN_ | apply bD_ | apply bA_); exact BK514.out⟩, ⟨by (with_reducible repeat first | apply bN_ | apply bD_ | apply bA_); exact BK531.out⟩, ⟨by repeat (first | (with_reducible first | exact HI525.out | apply sA_ | apply sN_ | apply sD_ | refine sF_ ?_ NB525_514.out _ | refine sF_ ?_ NB525_531.out _) | exact HI525.out)⟩, ⟨by repeat (first | (with_reducible first | exact HB.out | apply lA_ | apply lN_ | apply lD_ | refine lS_ ?_ (sG_ HI525.out) | refine lS_ ?_ GE514.out | refine lS_ ?_ GE531.out) | exact HB.out)⟩⟩
           ·rw [if_neg c35] at H
            have c35b0 : (!(t532 == a1_0) || (!(t533 == a1_1) || (!(t534 == a1_2)))) = false := by simpa using c35
            clear c35
            replace H := oB_ H
            obtain ⟨⟨t544, t545, t546, t547, t548, t549, t550, t551, t552, t553⟩, A380, H⟩ := H
            replace H : (stipendlaw04_PeriodMakes.j2 kj14 a0 (t544 != a0) a1_0 a1_1 a1_2 t545 t546 t547 t548 t549 t550 t551 t552 t553 t527 t528 t529) = some r := H
            have A38 := a0_ A380
            clear A380
            have H' := a0_ H
            clear H
            try go_wp2
            have n0_ := a0_ (bD_ BK514.out)
            have n1_ := a0_ (bD_ BK531.out)
            have n2_ := a0_ (sD_ HI525.out)
            have n3_ := a0_ (lD_ HB.out)
            clear BK514
            clear BK531
            clear HI525
            clear HB
            have BK514 := n0_
            have BK531 := n1_
            have HI525 := n2_
            have HB := n3_
            clear n0_ n1_ n2_ n3_
            refine start_ (n := 18) (S := fun w' => w'.cell? ⟨gb514, 0, none⟩ = some (.int .i64 a1_0) ∧ w'.cell? ⟨gb514, 1, none⟩ = some (.int .i64 a1_1) ∧ w'.cell? ⟨gb514, 2, none⟩ = some (.int .i64 a1_2)) (ds := []) #[false, false, false, false, false, false, false, false, false, false, false, false, false, false, false, false, false, false] (by kernel_rfl) rfl rfl ⟨(bC_ BK514.out 0).trans rfl, (bC_ BK514.out 1).trans rfl, (bC_ BK514.out 2).trans rfl⟩ (fun hHeld => ?_); refine with_tabW stipendlaw04_PeriodMakes.tab9 stipendlaw04_PeriodMakes.bits9 (fun HT_ HW_ => ?_)
            generalize wc.drew = w39 at BK514 BK531 HI525 HB hHeld ⊢
            refine pure_ (i := 0) (N := some 60) (v := ?_) (a' := ?_) #[true, false, false, false, false, false, false, false, false, false, false, false, false, false, false, false, false, false] rfl rfl (any_of HT_.out (by kernel_rfl)) (fun _ _ _ h => h) (Or.inl ⟨by rfl, ?_⟩) ?_ ?_
            rotate_left
            ·intro w'
             go_simp
             with_reducible rfl
            rotate_left
            ·simp only [Act.put, zA_, zB_, zC_, i64_w, i32_w]
             rfl
            refine pure_ (i := 1) (N := some 61) (v := ?_) (a' := ?_) #[true, true, false, false, false, false, false, false, false, false, false, false, false, false, false, false, false, false] rfl rfl (any_of HT_.out (by kernel_rfl)) (fun _ _ _ h => h) (Or.inl ⟨by rfl, ?_⟩) ?_ ?_
            rotate_left
            ·intro w'
             go_simp
             with_reducible rfl
            rotate_left
            ·simp only [Act.put, zA_, zB_, zC_, i64_w, i32_w]
             rfl
            refine pure_ (i := 2) (N := some 62) (v := ?_) (a' := ?_) #[true, true, true, false, false, false, false, false, false, false, false, false, false, false, false, false, false, false] rfl rfl (any_of HT_.out (by kernel_rfl)) (fun _ _ _ h => h) (Or.inl ⟨by rfl, ?_⟩) ?_ ?_
            rotate_left
            ·intro w'
             go_simp
             with_reducible rfl
            rotate_left
            ·simp only [Act.put, zA_, zB_, zC_, i64_w, i32_w]
             rfl
            refine pure_ (i := 3) (N := some 63) (v := ?_) (a' := ?_) #[true, true, true, true, false, false, false, false, false, false, false, false, false, false, false, false, false, false] rfl rfl (any_of HT_.out (by kernel_rfl)) (fun _ _ _ h => h) (Or.inl ⟨by rfl, ?_⟩) ?_ ?_
            rotate_left
            ·intro w'
             go_simp
             with_reducible rfl
            rotate_left
            ·simp only [Act.put, zA_, zB_, zC_, i64_w, i32_w]
             rfl
            refine pure_ (i := 4) (N := some 64) (v := ?_) (a' := ?_) #[true, true, true, true, true, false, false, false, false, false, false, false, false, false, false, false, false, false] rfl rfl (any_of HT_.out (by kernel_rfl)) (fun _ _ _ h => h) (Or.inl ⟨by rfl, ?_⟩) ?_ ?_
            rotate_left
            ·intro w'
             go_simp
             with_reducible rfl
            rotate_left
            ·simp only [Act.put, zA_, zB_, zC_, i64_w, i32_w]
             rfl
            refine pure_ (i := 5) (N := some 65) (v := ?_) (a' := ?_) #[true, true, true, true, true, true, false, false, false, false, false, false, false, false, false, false, false, false] rfl rfl (any_of HT_.out (by kernel_rfl)) (fun _ _ _ h => h) (Or.inl ⟨by rfl, ?_⟩) ?_ ?_
            rotate_left
            ·intro w'
             go_simp
             with_reducible rfl
            rotate_left
            ·simp only [Act.put, zA_, zB_, zC_, i64_w, i32_w]
             rfl
            refine pure_ (i := 6) (N := some 66) (v := ?_) (a' := ?_) #[true, true, true, true, true, true, true, false, false, false, false, false, false, false, false, false, false, false] rfl rfl (any_of HT_.out (by kernel_rfl)) (fun _ _ _ h => h) (Or.inl ⟨by rfl, ?_⟩) ?_ ?_
            rotate_left
            ·intro w'
             go_simp
             with_reducible rfl
            rotate_left
            ·simp only [Act.put, zA_, zB_, zC_, i64_w, i32_w]
             rfl
            refine pure_ (i := 7) (N := some 67) (v := ?_) (a' := ?_) #[true, true, true, true, true, true, true, true, false, false, false, false, false, false, false, false, false, false] rfl rfl (any_of HT_.out (by kernel_rfl)) (fun _ _ _ h => h) (Or.inl ⟨by rfl, ?_⟩) ?_ ?_
            rotate_left
            ·intro w'
             go_simp
             with_reducible rfl
            rotate_left
            ·simp only [Act.put, zA_, zB_, zC_, i64_w, i32_w]
             rfl
            refine take_ (i := 9) (N := some 69) (v := ?_) (a' := ?_) #[true, true, true, true, true, true, true, true, false, true, false, false, false, false, false, false, false, false] rfl rfl (take_ofW HT_.out HW_.out (by kernel_rfl)) (fun _ _ _ h => h) (Or.inl ⟨by rfl, ?_⟩) hHeld ?_ ?_
            rotate_left
            ·rintro w' ⟨s0, s1, s2⟩
             go_simp
             with_reducible rfl
            rotate_left
            ·simp only [Act.put, zA_, zB_, zC_, i64_w, i32_w]
             rfl
            refine one_ (i := 8) (N := some 68) #[true, true, true, true, true, true, true, true, true, true, false, false, false, false, false, false, false, false] rfl rfl (one_of HT_.out (by kernel_rfl)) (by decide) (fun K hK => ?_)
            refine goes_ Try.func17 (by kernel_rfl) rfl #[.pointer (some ⟨g525, 0, none⟩)] (by rfl) rfl rfl (by (try simp only [List.map_toArray, List.map_cons, List.map_nil]); first | done | rfl) ?_
            with_reducible refine (period_Year_Start.calls g525 t516 t517 t518 t519 t520 t521 t522 t523 t524 t532 t533 t534 t535 t536 t537 t538 t539 t540 t541 t542 t543 w _ ?side1 ?side2 A34.out).mono ?_
            (case side1 => repeat (first | (with_reducible first | exact HI525.out | apply sA_ | apply sN_ | apply sD_ | refine sF_ ?_ NB525_514.out _ | refine sF_ ?_ NB525_531.out _) | exact HI525.out))
            (case side2 => repeat (first | (with_reducible first | exact HB.out | apply lA_ | apply lN_ | apply lD_ | refine lS_ ?_ (sG_ HI525.out) | refine lS_ ?_ GE514.out | refine lS_ ?_ GE531.out) | exact HB.out))
            rintro e w40 ⟨rfl, hi, hb, hk⟩
            refine ⟨_, rfl, ?_⟩
            have n0_ := a0_ (KeepBut.blk hk (g' := gb514) (o := .cells #[.int .i64 a1_0, .int .i64 a1_1, .int .i64 a1_2] 23 (0, 0)) (by (with_reducible repeat first | apply bN_ | apply bD_ | apply bA_); exact BK514.out) NB514_525.out (by simp))
            have n1_ := a0_ (KeepBut.blk hk (g' := gb531) (o := .cells #[.int .i64 t527, .int .i64 t528, .int .i64 t529] 23 (0, 0)) (by (with_reducible repeat first | apply bN_ | apply bD_ | apply bA_); exact BK531.out) NB531_525.out (by simp))
            have n2_ := a0_ (hb)
            have n3_ := a0_ (hi)
            clear BK514
            clear BK531
            clear HB
            clear HI525
            have BK514 := n0_
            have BK531 := n1_
            have HB := n2_
            have HI525 := n3_
            clear n0_ n1_ n2_ n3_
            (try clear hb)
            (try clear hb2)
            (try clear hk)
            (try clear hi)
            refine hK.out _ _ ⟨(bC_ BK514.out 0).trans rfl, (bC_ BK514.out 1).trans rfl, (bC_ BK514.out 2).trans rfl⟩ (fun hHeld => ?_)
            clear hK K
            refine norm_ (a' := ?_) ?_ ?_
            rotate_left
            ·show Act.put _ (some 68) _ = _
             simp only [Act.put, zA_, zB_, zC_, i64_w, i32_w]
             rfl
            refine pure_ (i := 10) (N := some 70) (v := ?_) (a' := ?_) #[true, true, true, true, true, true, true, true, true, true, true, false, false, false, false, false, false, false] rfl rfl (any_of HT_.out (by kernel_rfl)) (fun _ _ _ h => h) (Or.inl ⟨by rfl, ?_⟩) ?_ ?_
            rotate_left
            ·intro w'
             go_simp
             with_reducible rfl
            rotate_left
            ·simp only [Act.put, zA_, zB_, zC_, i64_w, i32_w]
             rfl
            refine pure_ (i := 11) (N := some 71) (v := ?_) (a' := ?_) #[true, true, true, true, true, true, true, true, true, true, true, true, false, false, false, false, false, false] rfl rfl (any_of HT_.out (by kernel_rfl)) (fun _ _ _ h => h) (Or.inl ⟨by rfl, ?_⟩) ?_ ?_
            rotate_left
            ·intro w'
             go_simp
             with_reducible rfl
            rotate_left
            ·simp only [Act.put, zA_, zB_, zC_, i64_w, i32_w]
             rfl
            refine pure_ (i := 12) (N := some 72) (v := ?_) (a' := ?_) #[true, true, true, true, true, true, true, true, true, true, true, true, true, false, false, false, false, false] rfl rfl (any_of HT_.out (by kernel_rfl)) (fun _ _ _ h => h) (Or.inl ⟨by rfl, ?_⟩) ?_ ?_
            rotate_left
            ·intro w'
             go_simp
             with_reducible rfl
            rotate_left
            ·simp only [Act.put, zA_, zB_, zC_, i64_w, i32_w]
             rfl
            refine pure_ (i := 13) (N := some 73) (v := ?_) (a' := ?_) #[true, true, true, true, true, true, true, true, true, true, true, true, true, true, false, false, false, false] rfl rfl (any_of HT_.out (by kernel_rfl)) (fun _ _ _ h => h) (Or.inl ⟨by rfl, ?_⟩) ?_ ?_
            rotate_left
            ·intro w'
             go_simp
             with_reducible rfl
            rotate_left
            ·simp only [Act.put, zA_, zB_, zC_, i64_w, i32_w]
             rfl
            refine pure_ (i := 15) (N := some 75) (v := ?_) (a' := ?_) #[true, true, true, true, true, true, true, true, true, true, true, true, true, true, false, true, false, false] rfl rfl (any_of HT_.out (by kernel_rfl)) (fun _ _ _ h => h) (Or.inl ⟨by rfl, ?_⟩) ?_ ?_
            rotate_left
            ·intro w'
             go_simp
             with_reducible rfl
            rotate_left
            ·simp only [Act.put, zA_, zB_, zC_, i64_w, i32_w]
             rfl
            refine one_ (i := 14) (N := some 74) #[true, true, true, true, true, true, true, true, true, true, true, true, true, true, true, true, false, false] rfl rfl (one_of HT_.out (by kernel_rfl)) (by decide) (fun K hK => ?_)
            refine goes_ Try.func22 (by kernel_rfl) rfl #[.pointer (some ⟨g525, 0, none⟩)] (by rfl) rfl rfl (by (try simp only [List.map_toArray, List.map_cons, List.map_nil]); first | done | rfl) ?_
            with_reducible refine (period_Year_Freq.calls g525 t535 t536 t537 t538 t539 t540 t541 t542 t543 t544 t545 t546 t547 t548 t549 t550 t551 t552 t553 w _ ?side1 ?side2 A38.out).mono ?_
            (case side1 => repeat (first | (with_reducible first | exact HI525.out | apply sA_ | apply sN_ | apply sD_ | refine sF_ ?_ NB525_514.out _ | refine sF_ ?_ NB525_531.out _) | exact HI525.out))
            (case side2 => repeat (first | (with_reducible first | exact HB.out | apply lA_ | apply lN_ | apply lD_ | refine lS_ ?_ (sG_ HI525.out) | refine lS_ ?_ GE514.out | refine lS_ ?_ GE531.out) | exact HB.out))
            rintro e w41 ⟨rfl, hi, hb, hk⟩
            refine ⟨_, rfl, ?_⟩
            have n0_ := a0_ (KeepBut.blk hk (g' := gb514) (o := .cells #[.int .i64 a1_0, .int .i64 a1_1, .int .i64 a1_2] 23 (0, 0)) (by (with_reducible repeat first | apply bN_ | apply bD_ | apply bA_); exact BK514.out) NB514_525.out (by simp))
            have n1_ := a0_ (KeepBut.blk hk (g' := gb531) (o := .cells #[.int .i64 t527, .int .i64 t528, .int .i64 t529] 23 (0, 0)) (by (with_reducible repeat first | apply bN_ | apply bD_ | apply bA_); exact BK531.out) NB531_525.out (by simp))
            have n2_ := a0_ (hb)
            have n3_ := a0_ (hi)
            clear BK514
            clear BK531
            clear HB
            clear HI525
            have BK514 := n0_
            have BK531 := n1_
            have HB := n2_
            have HI525 := n3_
            clear n0_ n1_ n2_ n3_
            (try clear hb)
            (try clear hb2)
            (try clear hk)
            (try clear hi)
            refine hK.out _ _ ⟨(bC_ BK514.out 0).trans rfl, (bC_ BK514.out 1).trans rfl, (bC_ BK514.out 2).trans rfl⟩ (fun hHeld => ?_)
            clear hK K
            refine norm_ (a' := ?_) ?_ ?_
            rotate_left
            ·show Act.put _ (some 74) _ = _
             simp only [Act.put, zA_, zB_, zC_, i64_w, i32_w]
             rfl
            refine pure_ (i := 16) (N := some 76) (v := ?_) (a' := ?_) #[true, true, true, true, true, true, true, true, true, true, true, true, true, true, true, true, true, false] rfl rfl (any_of HT_.out (by kernel_rfl)) (fun _ _ _ h => h) (Or.inl ⟨by rfl, ?_⟩) ?_ ?_
            rotate_left
            ·intro w'
             go_simp
             with_reducible rfl
            rotate_left
            ·simp only [Act.put, zA_, zB_, zC_, i64_w, i32_w]
             rfl
            refine pure_ (i := 17) (N := some 77) (v := ?_) (a' := ?_) #[true, true, true, true, true, true, true, true, true, true, true, true, true, true, true, true, true, true] rfl rfl (any_of HT_.out (by kernel_rfl)) (fun _ _ _ h => h) (Or.inl ⟨by rfl, ?_⟩) ?_ ?_
            rotate_left
            ·intro w'
             go_simp
             with_reducible rfl
            rotate_left
            ·simp only [Act.put, zA_, zB_, zC_, i64_w, i32_w]
             rfl
            refine done_ (done_of HT_.out (by kernel_rfl)) ?_
            try go_wp2
            go_meet
            case rel => exact ⟨_, ((t544 != a0)), (t545), (t546), (t547), (t548), (t549), (t550), (t551), (t552), (t553), (by first | rfl | (simp; done) | (simp [*]; done)), H', ⟨by have := HJ6.out; have := HJ14.out; first | omega | exact Nat.le_refl _⟩, ⟨by (with_reducible repeat first | apply bN_ | apply bD_ | apply bA_); exact BK514.out⟩, ⟨by (with_reducible repeat first | apply bN_ | apply bD_ | apply bA_); exact BK531.out⟩, ⟨by repeat (first | (with_reducible first | exact HI525.out | apply sA_ | apply sN_ | apply sD_ | refine sF_ ?_ NB525_514.out _ | refine sF_ ?_ NB525_531.out _) | exact HI525.out)⟩, ⟨by repeat (first | (with_reducible first | exact HB.out | apply lA_ | apply lN_ | apply lD_ | refine lS_ ?_ (sG_ HI525.out) | refine lS_ ?_ GE514.out | refine lS_ ?_ GE531.out) | exact HB.out)⟩⟩
          ·rw [if_neg c33] at H
           have c33b0 : (t526 == 0) = false := beq_eq_false_iff_ne.mpr c33
           have c33b1 : (t526 != 0) = true := bne_iff_ne.mpr c33
           (first | rw [c33b0] | (simp only [i64_w, i32_w]; rw [c33b0]) | skip)
           have H' := a0_ H
           clear H
           try go_wp2
           have n0_ := a0_ (bD_ BK514.out)
           have n1_ := a0_ (bD_ BK531.out)
           have n2_ := a0_ (sD_ HI525.out)
           have n3_ := a0_ (lD_ HB.out)
           clear BK514
           clear BK531
           clear HI525
           clear HB
           have BK514 := n0_
           have BK531 := n1_
           have HI525 := n2_
           have HB := n3_
           clear n0_ n1_ n2_ n3_
           refine start_ (n := 18) (S := fun w' => True) (ds := []) #[false, false, false, false, false, false, false, false, false, false, false, false, false, false, false, false, false, false] (by kernel_rfl) rfl rfl trivial (fun hHeld => ?_); refine with_tabW stipendlaw04_PeriodMakes.tab9 stipendlaw04_PeriodMakes.bits9 (fun HT_ HW_ => ?_)
           generalize wc.drew = w42 at BK514 BK531 HI525 HB hHeld ⊢
           refine pure_ (i := 0) (N := some 60) (v := ?_) (a' := ?_) #[true, false, false, false, false, false, false, false, false, false, false, false, false, false, false, false, false, false] rfl rfl (any_of HT_.out (by kernel_rfl)) (fun _ _ _ h => h) (Or.inl ⟨by rfl, ?_⟩) ?_ ?_
           rotate_left
           ·intro w'
            go_simp
            with_reducible rfl
           rotate_left
           ·simp only [Act.put, zA_, zB_, zC_, i64_w, i32_w]
            rfl
           refine pure_ (i := 1) (N := some 61) (v := ?_) (a' := ?_) #[true, true, false, false, false, false, false, false, false, false, false, false, false, false, false, false, false, false] rfl rfl (any_of HT_.out (by kernel_rfl)) (fun _ _ _ h => h) (Or.inl ⟨by rfl, ?_⟩) ?_ ?_
           rotate_left
           ·intro w'
            go_simp
            with_reducible rfl
           rotate_left
           ·simp only [Act.put, zA_, zB_, zC_, i64_w, i32_w]
            rfl
           refine pure_ (i := 2) (N := some 62) (v := ?_) (a' := ?_) #[true, true, true, false, false, false, false, false, false, false, false, false, false, false, false, false, false, false] rfl rfl (any_of HT_.out (by kernel_rfl)) (fun _ _ _ h => h) (Or.inl ⟨by rfl, ?_⟩) ?_ ?_
           rotate_left
           ·intro w'
            go_simp
            with_reducible rfl
           rotate_left
           ·simp only [Act.put, zA_, zB_, zC_, i64_w, i32_w]
            rfl
           refine pure_ (i := 3) (N := some 63) (v := ?_) (a' := ?_) #[true, true, true, true, false, false, false, false, false, false, false, false, false, false, false, false, false, false] rfl rfl (any_of HT_.out (by kernel_rfl)) (fun _ _ _ h => h) (Or.inl ⟨by rfl, ?_⟩) ?_ ?_
           rotate_left
           ·intro w'
            go_simp
            with_reducible rfl
           rotate_left
           ·simp only [Act.put, zA_, zB_, zC_, i64_w, i32_w]
            rfl
           refine pure_ (i := 4) (N := some 64) (v := ?_) (a' := ?_) #[true, true, true, true, true, false, false, false, false, false, false, false, false, false, false, false, false, false] rfl rfl (any_of HT_.out (by kernel_rfl)) (fun _ _ _ h => h) (Or.inl ⟨by rfl, ?_⟩) ?_ ?_
           rotate_left
           ·intro w'
            go_simp
            with_reducible rfl
           rotate_left
           ·simp only [Act.put, zA_, zB_, zC_, i64_w, i32_w]
            rfl
           refine pure_ (i := 5) (N := some 65) (v := ?_) (a' := ?_) #[true, true, true, true, true, true, false, false, false, false, false, false, false, false, false, false, false, false] rfl rfl (any_of HT_.out (by kernel_rfl)) (fun _ _ _ h => h) (Or.inl ⟨by rfl, ?_⟩) ?_ ?_
           rotate_left
           ·intro w'
            go_simp
            with_reducible rfl
           rotate_left
           ·simp only [Act.put, zA_, zB_, zC_, i64_w, i32_w]
            rfl
           refine pure_ (i := 6) (N := some 66) (v := ?_) (a' := ?_) #[true, true, true, true, true, true, true, false, false, false, false, false, false, false, false, false, false, false] rfl rfl (any_of HT_.out (by kernel_rfl)) (fun _ _ _ h => h) (Or.inl ⟨by rfl, ?_⟩) ?_ ?_
           rotate_left
           ·intro w'
            go_simp
            with_reducible rfl
           rotate_left
           ·simp only [Act.put, zA_, zB_, zC_, i64_w, i32_w]
            rfl
           refine pure_ (i := 7) (N := some 67) (v := undef) (a' := ?_) #[true, true, true, true, true, true, true, true, false, false, false, false, false, false, false, false, false, false] rfl rfl (any_of HT_.out (by kernel_rfl)) (fun _ _ _ h => h) (Or.inr ⟨by rfl, rfl⟩) ?_ ?_
           rotate_left
           ·simp only [Act.put, zA_, zB_, zC_, i64_w, i32_w]
            rfl
           refine pure_ (i := 8) (N := some 68) (v := undef) (a' := ?_) #[true, true, true, true, true, true, true, true, true, false, false, false, false, false, false, false, false, false] rfl rfl (any_of HT_.out (by kernel_rfl)) (fun _ _ _ h => h) (Or.inr ⟨by rfl, rfl⟩) ?_ ?_
           rotate_left
           ·simp only [Act.put, zA_, zB_, zC_, i64_w, i32_w]
            rfl
           refine pure_ (i := 9) (N := some 69) (v := undef) (a' := ?_) #[true, true, true, true, true, true, true, true, true, true, false, false, false, false, false, false, false, false] rfl rfl (any_of HT_.out (by kernel_rfl)) (fun _ _ _ h => h) (Or.inr ⟨by rfl, rfl⟩) ?_ ?_
           rotate_left
           ·simp only [Act.put, zA_, zB_, zC_, i64_w, i32_w]
            rfl
           refine pure_ (i := 10) (N := some 70) (v := undef) (a' := ?_) #[true, true, true, true, true, true, true, true, true, true, true, false, false, false, false, false, false, false] rfl rfl (any_of HT_.out (by kernel_rfl)) (fun _ _ _ h => h) (Or.inr ⟨by rfl, rfl⟩) ?_ ?_
           rotate_left
           ·simp only [Act.put, zA_, zB_, zC_, i64_w, i32_w]
            rfl
           refine pure_ (i := 11) (N := some 71) (v := ?_) (a' := ?_) #[true, true, true, true, true, true, true, true, true, true, true, true, false, false, false, false, false, false] rfl rfl (any_of HT_.out (by kernel_rfl)) (fun _ _ _ h => h) (Or.inl ⟨by rfl, ?_⟩) ?_ ?_
           rotate_left
           ·intro w'
            go_simp
            with_reducible rfl
           rotate_left
           ·simp only [Act.put, zA_, zB_, zC_, i64_w, i32_w]
            rfl
           refine pure_ (i := 12) (N := some 72) (v := ?_) (a' := ?_) #[true, true, true, true, true, true, true, true, true, true, true, true, true, false, false, false, false, false] rfl rfl (any_of HT_.out (by kernel_rfl)) (fun _ _ _ h => h) (Or.inl ⟨by rfl, ?_⟩) ?_ ?_
           rotate_left
           ·intro w'
            go_simp
            with_reducible rfl
           rotate_left
           ·simp only [Act.put, zA_, zB_, zC_, i64_w, i32_w]
            rfl
           refine pure_ (i := 13) (N := some 73) (v := undef) (a' := ?_) #[true, true, true, true, true, true, true, true, true, true, true, true, true, true, false, false, false, false] rfl rfl (any_of HT_.out (by kernel_rfl)) (fun _ _ _ h => h) (Or.inr ⟨by rfl, rfl⟩) ?_ ?_
           rotate_left
           ·simp only [Act.put, zA_, zB_, zC_, i64_w, i32_w]
            rfl
           refine pure_ (i := 14) (N := some 74) (v := undef) (a' := ?_) #[true, true, true, true, true, true, true, true, true, true, true, true, true, true, true, false, false, false] rfl rfl (any_of HT_.out (by kernel_rfl)) (fun _ _ _ h => h) (Or.inr ⟨by rfl, rfl⟩) ?_ ?_
           rotate_left
           ·simp only [Act.put, zA_, zB_, zC_, i64_w, i32_w]
            rfl
           refine pure_ (i := 15) (N := some 75) (v := undef) (a' := ?_) #[true, true, true, true, true, true, true, true, true, true, true, true, true, true, true, true, false, false] rfl rfl (any_of HT_.out (by kernel_rfl)) (fun _ _ _ h => h) (Or.inr ⟨by rfl, rfl⟩) ?_ ?_
           rotate_left
           ·simp only [Act.put, zA_, zB_, zC_, i64_w, i32_w]
            rfl
           refine pure_ (i := 16) (N := some 76) (v := undef) (a' := ?_) #[true, true, true, true, true, true, true, true, true, true, true, true, true, true, true, true, true, false] rfl rfl (any_of HT_.out (by kernel_rfl)) (fun _ _ _ h => h) (Or.inr ⟨by rfl, rfl⟩) ?_ ?_
           rotate_left
           ·simp only [Act.put, zA_, zB_, zC_, i64_w, i32_w]
            rfl
           refine pure_ (i := 17) (N := some 77) (v := ?_) (a' := ?_) #[true, true, true, true, true, true, true, true, true, true, true, true, true, true, true, true, true, true] rfl rfl (any_of HT_.out (by kernel_rfl)) (fun _ _ _ h => h) (Or.inl ⟨by rfl, ?_⟩) ?_ ?_
           rotate_left
           ·intro w'
            go_simp
            with_reducible rfl
           rotate_left
           ·simp only [Act.put, zA_, zB_, zC_, i64_w, i32_w]
            rfl
           refine done_ (done_of HT_.out (by kernel_rfl)) ?_
           try go_wp2
           go_meet
           case rel => exact ⟨_, (true), (t516), (t517), (t518), (t519), (t520), (t521), (t522), (t523), (t524), (by first | rfl | (simp; done) | (simp [*]; done)), H', ⟨by have := HJ6.out; have := HJ14.out; first | omega | exact Nat.le_refl _⟩, ⟨by (with_reducible repeat first | apply bN_ | apply bD_ | apply bA_); exact BK514.out⟩, ⟨by (with_reducible repeat first | apply bN_ | apply bD_ | apply bA_); exact BK531.out⟩, ⟨by repeat (first | (with_reducible first | exact HI525.out | apply sA_ | apply sN_ | apply sD_ | refine sF_ ?_ NB525_514.out _ | refine sF_ ?_ NB525_531.out _) | exact HI525.out)⟩, ⟨by repeat (first | (with_reducible first | exact HB.out | apply lA_ | apply lN_ | apply lD_ | refine lS_ ?_ (sG_ HI525.out) | refine lS_ ?_ GE514.out | refine lS_ ?_ GE531.out) | exact HB.out)⟩⟩
         case rest =>
          clear HC32
          try clear p2
          try clear c31
          try clear c33
          try clear c33b0
          try clear c33b1
          try clear c35
          try clear c35b0
          try clear hcz22_0
          try clear hcz22_1
          try clear hcz22_2
          try clear hcz27_0
          try clear hcz27_1
          try clear hcz27_2
          try clear hcz30_0
          try clear hcz30_1
          try clear hcz30_2
          try clear hfz10_0
          try clear hfz10_1
          try clear hfz10_2
          try clear hfz17_0
          try clear hfz17_1
          try clear hfz17_2
          try clear hfz22_0
          try clear hfz22_1
          try clear hfz22_2
          try clear hfz27_0
          try clear hfz27_1
          try clear hfz27_2
          try clear hfz30_0
          try clear hfz30_1
          try clear hfz30_2
          try clear p2
          obtain ⟨kq, x77_31, x526000_31, x526001_31, x526002_31, x526003_31, x526004_31, x526005_31, x526006_31, x526007_31, x526008_31, rfl, HA, HJ31, BK514, BK531, HI525, HB⟩ := hcut
          cases kq with
          | zero => exact absurd HA.out (by simp [stipendlaw04_PeriodMakes.j2])
          | succ kj31 =>
           have H := HA.out
           clear HA
           simp only [stipendlaw04_PeriodMakes.j2] at H
           by_cases c43 : x77_31 = true
           ·subst c43
            have H1 : (none) = some r := by rw [if_pos rfl] at H; exact H
            clear H
            have H := H1
            clear H1
            exact absurd H (by simp)
           ·replace c43 := Bool.eq_false_iff.mpr c43
            subst c43
            have H1 : ((stipendref03_Number.f kj31 t527 t528 t529).bind fun t554 => ((stipendref03_Number.f kj31 a1_0 a1_1 a1_2).bind fun t555 => ((period_Year_End.f x526000_31 x526001_31 x526002_31 x526003_31 x526004_31 x526005_31 x526006_31 x526007_31 x526008_31).bind fun bt556 => ((date_Between.f kj31 a1_0 a1_1 a1_2 bt556.1 bt556.2.1 bt556.2.2.1).bind fun bt568 => (if period_Year_Next.made bt556.2.2.2.1 bt556.2.2.2.2.1 bt556.2.2.2.2.2.1 bt556.2.2.2.2.2.2.1 bt556.2.2.2.2.2.2.2.1 bt556.2.2.2.2.2.2.2.2.1 bt556.2.2.2.2.2.2.2.2.2.1 bt556.2.2.2.2.2.2.2.2.2.2.1 bt556.2.2.2.2.2.2.2.2.2.2.2 = true then ((period_Year_Next_A.f kj31 bt556.2.2.2.1 bt556.2.2.2.2.1 bt556.2.2.2.2.2.1 bt556.2.2.2.2.2.2.1 bt556.2.2.2.2.2.2.2.1 bt556.2.2.2.2.2.2.2.2.1 bt556.2.2.2.2.2.2.2.2.2.1 bt556.2.2.2.2.2.2.2.2.2.2.1 bt556.2.2.2.2.2.2.2.2.2.2.2).bind fun bt570 => (if bt568.2 = 0 then (stipendlaw04_PeriodMakes.j3 kj31 a0 (wrap64 (t554 - t555)) bt570.2.2.2.2.2.2.2.2.2 (bt568.1 != (wrap64 ((wrap64 (t554 - t555)) - 1))) bt556.2.2.2.1 bt556.2.2.2.2.1 bt556.2.2.2.2.2.1 bt556.2.2.2.2.2.2.1 bt556.2.2.2.2.2.2.2.1 bt556.2.2.2.2.2.2.2.2.1 bt556.2.2.2.2.2.2.2.2.2.1 bt556.2.2.2.2.2.2.2.2.2.2.1 bt556.2.2.2.2.2.2.2.2.2.2.2 t527 t528 t529 bt570.1 bt570.2.1 bt570.2.2.1 bt570.2.2.2.1 bt570.2.2.2.2.1 bt570.2.2.2.2.2.1 bt570.2.2.2.2.2.2.1 bt570.2.2.2.2.2.2.2.1 bt570.2.2.2.2.2.2.2.2.1) else (stipendlaw04_PeriodMakes.j3 kj31 a0 (wrap64 (t554 - t555)) bt570.2.2.2.2.2.2.2.2.2 true bt556.2.2.2.1 bt556.2.2.2.2.1 bt556.2.2.2.2.2.1 bt556.2.2.2.2.2.2.1 bt556.2.2.2.2.2.2.2.1 bt556.2.2.2.2.2.2.2.2.1 bt556.2.2.2.2.2.2.2.2.2.1 bt556.2.2.2.2.2.2.2.2.2.2.1 bt556.2.2.2.2.2.2.2.2.2.2.2 t527 t528 t529 bt570.1 bt570.2.1 bt570.2.2.1 bt570.2.2.2.1 bt570.2.2.2.2.1 bt570.2.2.2.2.2.1 bt570.2.2.2.2.2.2.1 bt570.2.2.2.2.2.2.2.1 bt570.2.2.2.2.2.2.2.2.1))) else ((period_Year_Next_B.f kj31 bt556.2.2.2.1 bt556.2.2.2.2.1 bt556.2.2.2.2.2.1 bt556.2.2.2.2.2.2.1 bt556.2.2.2.2.2.2.2.1 bt556.2.2.2.2.2.2.2.2.1 bt556.2.2.2.2.2.2.2.2.2.1 bt556.2.2.2.2.2.2.2.2.2.2.1 bt556.2.2.2.2.2.2.2.2.2.2.2).bind fun bt619 => (if bt568.2 = 0 then (stipendlaw04_PeriodMakes.j4 kj31 a0 (wrap64 (t554 - t555)) bt619.1 (bt568.1 != (wrap64 ((wrap64 (t554 - t555)) - 1))) bt619.2.1 bt619.2.2.1 bt619.2.2.2.1 bt619.2.2.2.2.1 bt619.2.2.2.2.2.1 bt619.2.2.2.2.2.2.1 bt619.2.2.2.2.2.2.2.1 bt619.2.2.2.2.2.2.2.2.1 bt619.2.2.2.2.2.2.2.2.2 t527 t528 t529) else (stipendlaw04_PeriodMakes.j4 kj31 a0 (wrap64 (t554 - t555)) bt619.1 true bt619.2.1 bt619.2.2.1 bt619.2.2.2.1 bt619.2.2.2.2.1 bt619.2.2.2.2.2.1 bt619.2.2.2.2.2.2.1 bt619.2.2.2.2.2.2.2.1 bt619.2.2.2.2.2.2.2.2.1 bt619.2.2.2.2.2.2.2.2.2 t527 t528 t529)))))))) = some r := by rw [if_neg (show ¬ (false = true) by decide)] at H; exact H
            clear H
            have H := H1
            clear H1
            replace H := oB_ H
            obtain ⟨t554, A440, H⟩ := H
            replace H : ((stipendref03_Number.f kj31 a1_0 a1_1 a1_2).bind fun t555 => ((period_Year_End.f x526000_31 x526001_31 x526002_31 x526003_31 x526004_31 x526005_31 x526006_31 x526007_31 x526008_31).bind fun bt556 => ((date_Between.f kj31 a1_0 a1_1 a1_2 bt556.1 bt556.2.1 bt556.2.2.1).bind fun bt568 => (if period_Year_Next.made bt556.2.2.2.1 bt556.2.2.2.2.1 bt556.2.2.2.2.2.1 bt556.2.2.2.2.2.2.1 bt556.2.2.2.2.2.2.2.1 bt556.2.2.2.2.2.2.2.2.1 bt556.2.2.2.2.2.2.2.2.2.1 bt556.2.2.2.2.2.2.2.2.2.2.1 bt556.2.2.2.2.2.2.2.2.2.2.2 = true then ((period_Year_Next_A.f kj31 bt556.2.2.2.1 bt556.2.2.2.2.1 bt556.2.2.2.2.2.1 bt556.2.2.2.2.2.2.1 bt556.2.2.2.2.2.2.2.1 bt556.2.2.2.2.2.2.2.2.1 bt556.2.2.2.2.2.2.2.2.2.1 bt556.2.2.2.2.2.2.2.2.2.2.1 bt556.2.2.2.2.2.2.2.2.2.2.2).bind fun bt570 => (if bt568.2 = 0 then (stipendlaw04_PeriodMakes.j3 kj31 a0 (wrap64 (t554 - t555)) bt570.2.2.2.2.2.2.2.2.2 (bt568.1 != (wrap64 ((wrap64 (t554 - t555)) - 1))) bt556.2.2.2.1 bt556.2.2.2.2.1 bt556.2.2.2.2.2.1 bt556.2.2.2.2.2.2.1 bt556.2.2.2.2.2.2.2.1 bt556.2.2.2.2.2.2.2.2.1 bt556.2.2.2.2.2.2.2.2.2.1 bt556.2.2.2.2.2.2.2.2.2.2.1 bt556.2.2.2.2.2.2.2.2.2.2.2 t527 t528 t529 bt570.1 bt570.2.1 bt570.2.2.1 bt570.2.2.2.1 bt570.2.2.2.2.1 bt570.2.2.2.2.2.1 bt570.2.2.2.2.2.2.1 bt570.2.2.2.2.2.2.2.1 bt570.2.2.2.2.2.2.2.2.1) else (stipendlaw04_PeriodMakes.j3 kj31 a0 (wrap64 (t554 - t555)) bt570.2.2.2.2.2.2.2.2.2 true bt556.2.2.2.1 bt556.2.2.2.2.1 bt556.2.2.2.2.2.1 bt556.2.2.2.2.2.2.1 bt556.2.2.2.2.2.2.2.1 bt556.2.2.2.2.2.2.2.2.1 bt556.2.2.2.2.2.2.2.2.2.1 bt556.2.2.2.2.2.2.2.2.2.2.1 bt556.2.2.2.2.2.2.2.2.2.2.2 t527 t528 t529 bt570.1 bt570.2.1 bt570.2.2.1 bt570.2.2.2.1 bt570.2.2.2.2.1 bt570.2.2.2.2.2.1 bt570.2.2.2.2.2.2.1 bt570.2.2.2.2.2.2.2.1 bt570.2.2.2.2.2.2.2.2.1))) else ((period_Year_Next_B.f kj31 bt556.2.2.2.1 bt556.2.2.2.2.1 bt556.2.2.2.2.2.1 bt556.2.2.2.2.2.2.1 bt556.2.2.2.2.2.2.2.1 bt556.2.2.2.2.2.2.2.2.1 bt556.2.2.2.2.2.2.2.2.2.1 bt556.2.2.2.2.2.2.2.2.2.2.1 bt556.2.2.2.2.2.2.2.2.2.2.2).bind fun bt619 => (if bt568.2 = 0 then (stipendlaw04_PeriodMakes.j4 kj31 a0 (wrap64 (t554 - t555)) bt619.1 (bt568.1 != (wrap64 ((wrap64 (t554 - t555)) - 1))) bt619.2.1 bt619.2.2.1 bt619.2.2.2.1 bt619.2.2.2.2.1 bt619.2.2.2.2.2.1 bt619.2.2.2.2.2.2.1 bt619.2.2.2.2.2.2.2.1 bt619.2.2.2.2.2.2.2.2.1 bt619.2.2.2.2.2.2.2.2.2 t527 t528 t529) else (stipendlaw04_PeriodMakes.j4 kj31 a0 (wrap64 (t554 - t555)) bt619.1 true bt619.2.1 bt619.2.2.1 bt619.2.2.2.1 bt619.2.2.2.2.1 bt619.2.2.2.2.2.1 bt619.2.2.2.2.2.2.1 bt619.2.2.2.2.2.2.2.1 bt619.2.2.2.2.2.2.2.2.1 bt619.2.2.2.2.2.2.2.2.2 t527 t528 t529))))))) = some r := H
            have A44 := a0_ A440
            clear A440
            replace H := oB_ H
            obtain ⟨t555, A450, H⟩ := H
            replace H : ((period_Year_End.f x526000_31 x526001_31 x526002_31 x526003_31 x526004_31 x526005_31 x526006_31 x526007_31 x526008_31).bind fun bt556 => ((date_Between.f kj31 a1_0 a1_1 a1_2 bt556.1 bt556.2.1 bt556.2.2.1).bind fun bt568 => (if period_Year_Next.made bt556.2.2.2.1 bt556.2.2.2.2.1 bt556.2.2.2.2.2.1 bt556.2.2.2.2.2.2.1 bt556.2.2.2.2.2.2.2.1 bt556.2.2.2.2.2.2.2.2.1 bt556.2.2.2.2.2.2.2.2.2.1 bt556.2.2.2.2.2.2.2.2.2.2.1 bt556.2.2.2.2.2.2.2.2.2.2.2 = true then ((period_Year_Next_A.f kj31 bt556.2.2.2.1 bt556.2.2.2.2.1 bt556.2.2.2.2.2.1 bt556.2.2.2.2.2.2.1 bt556.2.2.2.2.2.2.2.1 bt556.2.2.2.2.2.2.2.2.1 bt556.2.2.2.2.2.2.2.2.2.1 bt556.2.2.2.2.2.2.2.2.2.2.1 bt556.2.2.2.2.2.2.2.2.2.2.2).bind fun bt570 => (if bt568.2 = 0 then (stipendlaw04_PeriodMakes.j3 kj31 a0 (wrap64 (t554 - t555)) bt570.2.2.2.2.2.2.2.2.2 (bt568.1 != (wrap64 ((wrap64 (t554 - t555)) - 1))) bt556.2.2.2.1 bt556.2.2.2.2.1 bt556.2.2.2.2.2.1 bt556.2.2.2.2.2.2.1 bt556.2.2.2.2.2.2.2.1 bt556.2.2.2.2.2.2.2.2.1 bt556.2.2.2.2.2.2.2.2.2.1 bt556.2.2.2.2.2.2.2.2.2.2.1 bt556.2.2.2.2.2.2.2.2.2.2.2 t527 t528 t529 bt570.1 bt570.2.1 bt570.2.2.1 bt570.2.2.2.1 bt570.2.2.2.2.1 bt570.2.2.2.2.2.1 bt570.2.2.2.2.2.2.1 bt570.2.2.2.2.2.2.2.1 bt570.2.2.2.2.2.2.2.2.1) else (stipendlaw04_PeriodMakes.j3 kj31 a0 (wrap64 (t554 - t555)) bt570.2.2.2.2.2.2.2.2.2 true bt556.2.2.2.1 bt556.2.2.2.2.1 bt556.2.2.2.2.2.1 bt556.2.2.2.2.2.2.1 bt556.2.2.2.2.2.2.2.1 bt556.2.2.2.2.2.2.2.2.1 bt556.2.2.2.2.2.2.2.2.2.1 bt556.2.2.2.2.2.2.2.2.2.2.1 bt556.2.2.2.2.2.2.2.2.2.2.2 t527 t528 t529 bt570.1 bt570.2.1 bt570.2.2.1 bt570.2.2.2.1 bt570.2.2.2.2.1 bt570.2.2.2.2.2.1 bt570.2.2.2.2.2.2.1 bt570.2.2.2.2.2.2.2.1 bt570.2.2.2.2.2.2.2.2.1))) else ((period_Year_Next_B.f kj31 bt556.2.2.2.1 bt556.2.2.2.2.1 bt556.2.2.2.2.2.1 bt556.2.2.2.2.2.2.1 bt556.2.2.2.2.2.2.2.1 bt556.2.2.2.2.2.2.2.2.1 bt556.2.2.2.2.2.2.2.2.2.1 bt556.2.2.2.2.2.2.2.2.2.2.1 bt556.2.2.2.2.2.2.2.2.2.2.2).bind fun bt619 => (if bt568.2 = 0 then (stipendlaw04_PeriodMakes.j4 kj31 a0 (wrap64 (t554 - t555)) bt619.1 (bt568.1 != (wrap64 ((wrap64 (t554 - t555)) - 1))) bt619.2.1 bt619.2.2.1 bt619.2.2.2.1 bt619.2.2.2.2.1 bt619.2.2.2.2.2.1 bt619.2.2.2.2.2.2.1 bt619.2.2.2.2.2.2.2.1 bt619.2.2.2.2.2.2.2.2.1 bt619.2.2.2.2.2.2.2.2.2 t527 t528 t529) else (stipendlaw04_PeriodMakes.j4 kj31 a0 (wrap64 (t554 - t555)) bt619.1 true bt619.2.1 bt619.2.2.1 bt619.2.2.2.1 bt619.2.2.2.2.1 bt619.2.2.2.2.2.1 bt619.2.2.2.2.2.2.1 bt619.2.2.2.2.2.2.2.1 bt619.2.2.2.2.2.2.2.2.1 bt619.2.2.2.2.2.2.2.2.2 t527 t528 t529)))))) = some r := H
            have A45 := a0_ A450
            clear A450
            replace H := oB_ H
            obtain ⟨⟨t556, t557, t558, t559, t560, t561, t562, t563, t564, t565, t566, t567⟩, A460, H⟩ := H
            replace H : ((date_Between.f kj31 a1_0 a1_1 a1_2 t556 t557 t558).bind fun bt568 => (if period_Year_Next.made t559 t560 t561 t562 t563 t564 t565 t566 t567 = true then ((period_Year_Next_A.f kj31 t559 t560 t561 t562 t563 t564 t565 t566 t567).bind fun bt570 => (if bt568.2 = 0 then (stipendlaw04_PeriodMakes.j3 kj31 a0 (wrap64 (t554 - t555)) bt570.2.2.2.2.2.2.2.2.2 (bt568.1 != (wrap64 ((wrap64 (t554 - t555)) - 1))) t559 t560 t561 t562 t563 t564 t565 t566 t567 t527 t528 t529 bt570.1 bt570.2.1 bt570.2.2.1 bt570.2.2.2.1 bt570.2.2.2.2.1 bt570.2.2.2.2.2.1 bt570.2.2.2.2.2.2.1 bt570.2.2.2.2.2.2.2.1 bt570.2.2.2.2.2.2.2.2.1) else (stipendlaw04_PeriodMakes.j3 kj31 a0 (wrap64 (t554 - t555)) bt570.2.2.2.2.2.2.2.2.2 true t559 t560 t561 t562 t563 t564 t565 t566 t567 t527 t528 t529 bt570.1 bt570.2.1 bt570.2.2.1 bt570.2.2.2.1 bt570.2.2.2.2.1 bt570.2.2.2.2.2.1 bt570.2.2.2.2.2.2.1 bt570.2.2.2.2.2.2.2.1 bt570.2.2.2.2.2.2.2.2.1))) else ((period_Year_Next_B.f kj31 t559 t560 t561 t562 t563 t564 t565 t566 t567).bind fun bt619 => (if bt568.2 = 0 then (stipendlaw04_PeriodMakes.j4 kj31 a0 (wrap64 (t554 - t555)) bt619.1 (bt568.1 != (wrap64 ((wrap64 (t554 - t555)) - 1))) bt619.2.1 bt619.2.2.1 bt619.2.2.2.1 bt619.2.2.2.2.1 bt619.2.2.2.2.2.1 bt619.2.2.2.2.2.2.1 bt619.2.2.2.2.2.2.2.1 bt619.2.2.2.2.2.2.2.2.1 bt619.2.2.2.2.2.2.2.2.2 t527 t528 t529) else (stipendlaw04_PeriodMakes.j4 kj31 a0 (wrap64 (t554 - t555)) bt619.1 true bt619.2.1 bt619.2.2.1 bt619.2.2.2.1 bt619.2.2.2.2.1 bt619.2.2.2.2.2.1 bt619.2.2.2.2.2.2.1 bt619.2.2.2.2.2.2.2.1 bt619.2.2.2.2.2.2.2.2.1 bt619.2.2.2.2.2.2.2.2.2 t527 t528 t529))))) = some r := H
            have A46 := a0_ A460
            clear A460
            replace H := oB_ H
            obtain ⟨⟨t568, t569⟩, A470, H⟩ := H
            replace H : (if period_Year_Next.made t559 t560 t561 t562 t563 t564 t565 t566 t567 = true then ((period_Year_Next_A.f kj31 t559 t560 t561 t562 t563 t564 t565 t566 t567).bind fun bt570 => (if t569 = 0 then (stipendlaw04_PeriodMakes.j3 kj31 a0 (wrap64 (t554 - t555)) bt570.2.2.2.2.2.2.2.2.2 (t568 != (wrap64 ((wrap64 (t554 - t555)) - 1))) t559 t560 t561 t562 t563 t564 t565 t566 t567 t527 t528 t529 bt570.1 bt570.2.1 bt570.2.2.1 bt570.2.2.2.1 bt570.2.2.2.2.1 bt570.2.2.2.2.2.1 bt570.2.2.2.2.2.2.1 bt570.2.2.2.2.2.2.2.1 bt570.2.2.2.2.2.2.2.2.1) else (stipendlaw04_PeriodMakes.j3 kj31 a0 (wrap64 (t554 - t555)) bt570.2.2.2.2.2.2.2.2.2 true t559 t560 t561 t562 t563 t564 t565 t566 t567 t527 t528 t529 bt570.1 bt570.2.1 bt570.2.2.1 bt570.2.2.2.1 bt570.2.2.2.2.1 bt570.2.2.2.2.2.1 bt570.2.2.2.2.2.2.1 bt570.2.2.2.2.2.2.2.1 bt570.2.2.2.2.2.2.2.2.1))) else ((period_Year_Next_B.f kj31 t559 t560 t561 t562 t563 t564 t565 t566 t567).bind fun bt619 => (if t569 = 0 then (stipendlaw04_PeriodMakes.j4 kj31 a0 (wrap64 (t554 - t555)) bt619.1 (t568 != (wrap64 ((wrap64 (t554 - t555)) - 1))) bt619.2.1 bt619.2.2.1 bt619.2.2.2.1 bt619.2.2.2.2.1 bt619.2.2.2.2.2.1 bt619.2.2.2.2.2.2.1 bt619.2.2.2.2.2.2.2.1 bt619.2.2.2.2.2.2.2.2.1 bt619.2.2.2.2.2.2.2.2.2 t527 t528 t529) else (stipendlaw04_PeriodMakes.j4 kj31 a0 (wrap64 (t554 - t555)) bt619.1 true bt619.2.1 bt619.2.2.1 bt619.2.2.2.1 bt619.2.2.2.2.1 bt619.2.2.2.2.2.1 bt619.2.2.2.2.2.2.1 bt619.2.2.2.2.2.2.2.1 bt619.2.2.2.2.2.2.2.2.1 bt619.2.2.2.2.2.2.2.2.2 t527 t528 t529)))) = some r := H
            have A47 := a0_ A470
            clear A470
            by_cases c48 : period_Year_Next.made t559 t560 t561 t562 t563 t564 t565 t566 t567 = true
            ·rw [if_pos c48] at H
             have c48b0 : period_Year_Next.made t559 t560 t561 t562 t563 t564 t565 t566 t567 = true := c48
             clear c48
             replace H := oB_ H
             obtain ⟨⟨t570, t571, t572, t573, t574, t575, t576, t577, t578, t580⟩, A490, H⟩ := H
             replace H : (if t569 = 0 then (stipendlaw04_PeriodMakes.j3 kj31 a0 (wrap64 (t554 - t555)) t580 (t568 != (wrap64 ((wrap64 (t554 - t555)) - 1))) t559 t560 t561 t562 t563 t564 t565 t566 t567 t527 t528 t529 t570 t571 t572 t573 t574 t575 t576 t577 t578) else (stipendlaw04_PeriodMakes.j3 kj31 a0 (wrap64 (t554 - t555)) t580 true t559 t560 t561 t562 t563 t564 t565 t566 t567 t527 t528 t529 t570 t571 t572 t573 t574 t575 t576 t577 t578)) = some r := H
             have A49 := a0_ A490
             clear A490
             have HC50 := a0_ H
             clear H
             try go_wp2
             have n0_ := a0_ (bD_ BK514.out)
             have n1_ := a0_ (bD_ BK531.out)
             have n2_ := a0_ (sD_ HI525.out)
             have n3_ := a0_ (lD_ HB.out)
             clear BK514
             clear BK531
             clear HI525
             clear HB
             have BK514 := n0_
             have BK531 := n1_
             have HI525 := n2_
             have HB := n3_
             clear n0_ n1_ n2_ n3_
             refine start_ (n := 6) (S := fun w' => w'.cell? ⟨gb531, 0, none⟩ = some (.int .i64 t527) ∧ w'.cell? ⟨gb531, 1, none⟩ = some (.int .i64 t528) ∧ w'.cell? ⟨gb531, 2, none⟩ = some (.int .i64 t529) ∧ w'.cell? ⟨gb514, 0, none⟩ = some (.int .i64 a1_0) ∧ w'.cell? ⟨gb514, 1, none⟩ = some (.int .i64 a1_1) ∧ w'.cell? ⟨gb514, 2, none⟩ = some (.int .i64 a1_2)) (ds := []) #[false, false, false, false, false, false] (by kernel_rfl) rfl rfl ⟨(bC_ BK531.out 0).trans rfl, (bC_ BK531.out 1).trans rfl, (bC_ BK531.out 2).trans rfl, (bC_ BK514.out 0).trans rfl, (bC_ BK514.out 1).trans rfl, (bC_ BK514.out 2).trans rfl⟩ (fun hHeld => ?_)
             generalize wc.drew = w51 at BK514 BK531 HI525 HB hHeld ⊢
             refine take_ (i := 0) (N := some 78) (v := ?_) (a' := ?_) #[true, false, false, false, false, false] rfl rfl (by kernel_rfl) (fun _ _ _ h => h) (Or.inl ⟨by rfl, ?_⟩) hHeld ?_ ?_
             rotate_left
             ·rintro w' ⟨s0, s1, s2, s3, s4, s5⟩
              go_simp
              with_reducible rfl
             rotate_left
             ·simp only [Act.put, zA_, zB_, zC_, i64_w, i32_w]
              rfl
             refine take_ (i := 2) (N := some 80) (v := ?_) (a' := ?_) #[true, false, true, false, false, false] rfl rfl (by kernel_rfl) (fun _ _ _ h => h) (Or.inl ⟨by rfl, ?_⟩) hHeld ?_ ?_
             rotate_left
             ·rintro w' ⟨s0, s1, s2, s3, s4, s5⟩
              go_simp
              with_reducible rfl
             rotate_left
             ·simp only [Act.put, zA_, zB_, zC_, i64_w, i32_w]
              rfl
             refine one_ (i := 1) (N := some 79) #[true, true, true, false, false, false] rfl rfl (by kernel_rfl) (by decide) (fun K hK => ?_)
             refine goes_ Try.func23 (by kernel_rfl) rfl #[.agg #[.int .i64 t527, .int .i64 t528, .int .i64 t529]] (by rfl) rfl rfl (by (try simp only [List.map_toArray, List.map_cons, List.map_nil]); first | done | rfl) ?_
             with_reducible refine (stipendref03_Number.calls kj31 t527 t528 t529 t554 _ A44.out).mono ?_
             rintro e w52 ⟨rfl, hb⟩
             refine ⟨_, rfl, ?_⟩
             have n0_ := a0_ (bB_ (g := gb514) (o := .cells #[.int .i64 a1_0, .int .i64 a1_1, .int .i64 a1_2] 23 (0, 0)) (by (with_reducible repeat first | apply bN_ | apply bD_ | apply bA_); exact BK514.out) hb)
             have n1_ := a0_ (bB_ (g := gb531) (o := .cells #[.int .i64 t527, .int .i64 t528, .int .i64 t529] 23 (0, 0)) (by (with_reducible repeat first | apply bN_ | apply bD_ | apply bA_); exact BK531.out) hb)
             have n2_ := a0_ (IsS62.below (by repeat (first | (with_reducible first | exact HI525.out | apply sA_ | apply sN_ | apply sD_ | refine sF_ ?_ NB525_514.out _ | refine sF_ ?_ NB525_531.out _) | exact HI525.out)) hb)
             have n3_ := a0_ (below_step (by repeat (first | (with_reducible first | exact HB.out | apply lA_ | apply lN_ | apply lD_ | refine lS_ ?_ (sG_ HI525.out) | refine lS_ ?_ GE514.out | refine lS_ ?_ GE531.out) | exact HB.out)) hb)
             clear BK514
             clear BK531
             clear HI525
             clear HB
             have BK514 := n0_
             have BK531 := n1_
             have HI525 := n2_
             have HB := n3_
             clear n0_ n1_ n2_ n3_
             (try clear hb)
             (try clear hb2)
             (try clear hk)
             (try clear hi)
             refine hK.out _ _ ⟨(bC_ BK531.out 0).trans rfl, (bC_ BK531.out 1).trans rfl, (bC_ BK531.out 2).trans rfl, (bC_ BK514.out 0).trans rfl, (bC_ BK514.out 1).trans rfl, (bC_ BK514.out 2).trans rfl⟩ (fun hHeld => ?_)
             clear hK K
             refine norm_ (a' := ?_) ?_ ?_
             rotate_left
             ·show Act.put _ (some 79) _ = _
              simp only [Act.put, zA_, zB_, zC_, i64_w, i32_w]
              rfl
             refine one_ (i := 3) (N := some 81) #[true, true, true, true, false, false] rfl rfl (by kernel_rfl) (by decide) (fun K hK => ?_)
             refine goes_ Try.func23 (by kernel_rfl) rfl #[.agg #[.int .i64 a1_0, .int .i64 a1_1, .int .i64 a1_2]] (by rfl) rfl rfl (by (try simp only [List.map_toArray, List.map_cons, List.map_nil]); first | done | rfl) ?_
             with_reducible refine (stipendref03_Number.calls kj31 a1_0 a1_1 a1_2 t555 _ A45.out).mono ?_
             rintro e w53 ⟨rfl, hb⟩
             refine ⟨_, rfl, ?_⟩
             have n0_ := a0_ (bB_ (g := gb514) (o := .cells #[.int .i64 a1_0, .int .i64 a1_1, .int .i64 a1_2] 23 (0, 0)) (by (with_reducible repeat first | apply bN_ | apply bD_ | apply bA_); exact BK514.out) hb)
             have n1_ := a0_ (bB_ (g := gb531) (o := .cells #[.int .i64 t527, .int .i64 t528, .int .i64 t529] 23 (0, 0)) (by (with_reducible repeat first | apply bN_ | apply bD_ | apply bA_); exact BK531.out) hb)
             have n2_ := a0_ (IsS62.below (by repeat (first | (with_reducible first | exact HI525.out | apply sA_ | apply sN_ | apply sD_ | refine sF_ ?_ NB525_514.out _ | refine sF_ ?_ NB525_531.out _) | exact HI525.out)) hb)
             have n3_ := a0_ (below_step (by repeat (first | (with_reducible first | exact HB.out | apply lA_ | apply lN_ | apply lD_ | refine lS_ ?_ (sG_ HI525.out) | refine lS_ ?_ GE514.out | refine lS_ ?_ GE531.out) | exact HB.out)) hb)
             clear BK514
             clear BK531
             clear HI525
             clear HB
             have BK514 := n0_
             have BK531 := n1_
             have HI525 := n2_
             have HB := n3_
             clear n0_ n1_ n2_ n3_
             (try clear hb)
             (try clear hb2)
             (try clear hk)
             (try clear hi)
             refine hK.out _ _ ⟨(bC_ BK531.out 0).trans rfl, (bC_ BK531.out 1).trans rfl, (bC_ BK531.out 2).trans rfl, (bC_ BK514.out 0).trans rfl, (bC_ BK514.out 1).trans rfl, (bC_ BK514.out 2).trans rfl⟩ (fun hHeld => ?_)
             clear hK K
             refine norm_ (a' := ?_) ?_ ?_
             rotate_left
             ·show Act.put _ (some 81) _ = _
              simp only [Act.put, zA_, zB_, zC_, i64_w, i32_w]
              rfl
             refine pure_ (i := 4) (N := some 82) (v := ?_) (a' := ?_) #[true, true, true, true, true, false] rfl rfl (by kernel_rfl) (fun _ _ _ h => h) (Or.inl ⟨by rfl, ?_⟩) ?_ ?_
             rotate_left
             ·intro w'
              go_simp
              with_reducible rfl
             rotate_left
             ·simp only [Act.put, zA_, zB_, zC_, i64_w, i32_w]
              rfl
             refine pure_ (i := 5) (N := some 9) (v := ?_) (a' := ?_) #[true, true, true, true, true, true] rfl rfl (by kernel_rfl) (fun _ _ _ h => h) (Or.inl ⟨by rfl, ?_⟩) ?_ ?_
             rotate_left
             ·intro w'
              go_simp
              with_reducible rfl
             rotate_left
             ·simp only [Act.put, zA_, zB_, zC_, i64_w, i32_w]
              rfl
             refine done_ (by kernel_rfl) ?_
             try go_wp2
             have n0_ := a0_ (bD_ BK514.out)
             have n1_ := a0_ (bD_ BK531.out)
             have n2_ := a0_ (sD_ HI525.out)
             have n3_ := a0_ (lD_ HB.out)
             clear BK514
             clear BK531
             clear HI525
             clear HB
             have BK514 := n0_
             have BK531 := n1_
             have HI525 := n2_
             have HB := n3_
             clear n0_ n1_ n2_ n3_
             refine start_ (n := 9) (S := fun w' => w'.cell? ⟨gb514, 0, none⟩ = some (.int .i64 a1_0) ∧ w'.cell? ⟨gb514, 1, none⟩ = some (.int .i64 a1_1) ∧ w'.cell? ⟨gb514, 2, none⟩ = some (.int .i64 a1_2)) (ds := []) #[false, false, false, false, false, false, false, false, false] (by kernel_rfl) rfl rfl ⟨(bC_ BK514.out 0).trans rfl, (bC_ BK514.out 1).trans rfl, (bC_ BK514.out 2).trans rfl⟩ (fun hHeld => ?_); refine with_tabW stipendlaw04_PeriodMakes.tab12 stipendlaw04_PeriodMakes.bits12 (fun HT_ HW_ => ?_)
             generalize w53.drew = w54 at BK514 BK531 HI525 HB hHeld ⊢
             refine pure_ (i := 1) (N := some 85) (v := ?_) (a' := ?_) #[false, true, false, false, false, false, false, false, false] rfl rfl (any_of HT_.out (by kernel_rfl)) (fun _ _ _ h => h) (Or.inl ⟨by rfl, ?_⟩) ?_ ?_
             rotate_left
             ·intro w'
              go_simp
              with_reducible rfl
             rotate_left
             ·simp only [Act.put, zA_, zB_, zC_, i64_w, i32_w]
              rfl
             refine take_ (i := 0) (N := some 84) (v := ?_) (a' := ?_) #[true, true, false, false, false, false, false, false, false] rfl rfl (take_ofW HT_.out HW_.out (by kernel_rfl)) (fun _ _ _ h => h) (Or.inl ⟨by rfl, ?_⟩) hHeld ?_ ?_
             rotate_left
             ·rintro w' ⟨s0, s1, s2⟩
              go_simp
              with_reducible rfl
             rotate_left
             ·simp only [Act.put, zA_, zB_, zC_, i64_w, i32_w]
              rfl
             refine one_ (i := 2) (N := some 86) #[true, true, true, false, false, false, false, false, false] rfl rfl (one_of HT_.out (by kernel_rfl)) (by decide) (fun K hK => ?_)
             refine goes_ Try.func18 (by kernel_rfl) rfl #[.pointer (some ⟨g525, 0, none⟩)] (by rfl) rfl rfl (by (try simp only [List.map_toArray, List.map_cons, List.map_nil]); first | done | rfl) ?_
             with_reducible refine (period_Year_End.calls g525 x526000_31 x526001_31 x526002_31 x526003_31 x526004_31 x526005_31 x526006_31 x526007_31 x526008_31 t556 t557 t558 t559 t560 t561 t562 t563 t564 t565 t566 t567 w _ ?side1 ?side2 A46.out).mono ?_
             (case side1 => repeat (first | (with_reducible first | exact HI525.out | apply sA_ | apply sN_ | apply sD_ | refine sF_ ?_ NB525_514.out _ | refine sF_ ?_ NB525_531.out _) | exact HI525.out))
             (case side2 => repeat (first | (with_reducible first | exact HB.out | apply lA_ | apply lN_ | apply lD_ | refine lS_ ?_ (sG_ HI525.out) | refine lS_ ?_ GE514.out | refine lS_ ?_ GE531.out) | exact HB.out))
             rintro e w55 ⟨rfl, hi, hb, hk⟩
             refine ⟨_, rfl, ?_⟩
             have n0_ := a0_ (KeepBut.blk hk (g' := gb514) (o := .cells #[.int .i64 a1_0, .int .i64 a1_1, .int .i64 a1_2] 23 (0, 0)) (by (with_reducible repeat first | apply bN_ | apply bD_ | apply bA_); exact BK514.out) NB514_525.out (by simp))
             have n1_ := a0_ (KeepBut.blk hk (g' := gb531) (o := .cells #[.int .i64 t527, .int .i64 t528, .int .i64 t529] 23 (0, 0)) (by (with_reducible repeat first | apply bN_ | apply bD_ | apply bA_); exact BK531.out) NB531_525.out (by simp))
             have n2_ := a0_ (hb)
             have n3_ := a0_ (hi)
             clear BK514
             clear BK531
             clear HB
             clear HI525
             have BK514 := n0_
             have BK531 := n1_
             have HB := n2_
             have HI525 := n3_
             clear n0_ n1_ n2_ n3_
             (try clear hb)
             (try clear hb2)
             (try clear hk)
             (try clear hi)
             refine hK.out _ _ ⟨(bC_ BK514.out 0).trans rfl, (bC_ BK514.out 1).trans rfl, (bC_ BK514.out 2).trans rfl⟩ (fun hHeld => ?_)
             clear hK K
             refine norm_ (a' := ?_) ?_ ?_
             rotate_left
             ·show Act.put _ (some 86) _ = _
              simp only [Act.put, zA_, zB_, zC_, i64_w, i32_w]
              rfl
             refine one_ (i := 3) (N := some 87) #[true, true, true, true, false, false, false, false, false] rfl rfl (one_of HT_.out (by kernel_rfl)) (by decide) (fun K hK => ?_)
             refine goes_ Try.func16 (by kernel_rfl) rfl #[.agg #[.int .i64 a1_0, .int .i64 a1_1, .int .i64 a1_2], .agg #[.int .i64 t556, .int .i64 t557, .int .i64 t558]] (by rfl) rfl rfl (by (try simp only [List.map_toArray, List.map_cons, List.map_nil]); first | done | rfl) ?_
             with_reducible refine (date_Between.calls kj31 a1_0 a1_1 a1_2 t556 t557 t558 t568 t569 _ A47.out).mono ?_
             rintro e w56 ⟨rfl, hb⟩
             refine ⟨_, rfl, ?_⟩
             have n0_ := a0_ (bB_ (g := gb514) (o := .cells #[.int .i64 a1_0, .int .i64 a1_1, .int .i64 a1_2] 23 (0, 0)) (by (with_reducible repeat first | apply bN_ | apply bD_ | apply bA_); exact BK514.out) hb)
             have n1_ := a0_ (bB_ (g := gb531) (o := .cells #[.int .i64 t527, .int .i64 t528, .int .i64 t529] 23 (0, 0)) (by (with_reducible repeat first | apply bN_ | apply bD_ | apply bA_); exact BK531.out) hb)
             have n2_ := a0_ (IsS62.below (by repeat (first | (with_reducible first | exact HI525.out | apply sA_ | apply sN_ | apply sD_ | refine sF_ ?_ NB525_514.out _ | refine sF_ ?_ NB525_531.out _) | exact HI525.out)) hb)
             have n3_ := a0_ (below_step (by repeat (first | (with_reducible first | exact HB.out | apply lA_ | apply lN_ | apply lD_ | refine lS_ ?_ (sG_ HI525.out) | refine lS_ ?_ GE514.out | refine lS_ ?_ GE531.out) | exact HB.out)) hb)
             clear BK514
             clear BK531
             clear HI525
             clear HB
             have BK514 := n0_
             have BK531 := n1_
             have HI525 := n2_
             have HB := n3_
             clear n0_ n1_ n2_ n3_
             (try clear hb)
             (try clear hb2)
             (try clear hk)
             (try clear hi)
             refine hK.out _ _ ⟨(bC_ BK514.out 0).trans rfl, (bC_ BK514.out 1).trans rfl, (bC_ BK514.out 2).trans rfl⟩ (fun hHeld => ?_)
             clear hK K
             refine norm_ (a' := ?_) ?_ ?_
             rotate_left
             ·show Act.put _ (some 87) _ = _
              simp only [Act.put, zA_, zB_, zC_, i64_w, i32_w]
              rfl
             refine pure_ (i := 4) (N := some 83) (v := ?_) (a' := ?_) #[true, true, true, true, true, false, false, false, false] rfl rfl (any_of HT_.out (by kernel_rfl)) (fun _ _ _ h => h) (Or.inl ⟨by rfl, ?_⟩) ?_ ?_
             rotate_left
             ·intro w'
              go_simp
              with_reducible rfl
             rotate_left
             ·simp only [Act.put, zA_, zB_, zC_, i64_w, i32_w]
              rfl
             refine pure_ (i := 5) (N := some 88) (v := ?_) (a' := ?_) #[true, true, true, true, true, true, false, false, false] rfl rfl (any_of HT_.out (by kernel_rfl)) (fun _ _ _ h => h) (Or.inl ⟨by rfl, ?_⟩) ?_ ?_
             rotate_left
             ·intro w'
              go_simp
              with_reducible rfl
             rotate_left
             ·simp only [Act.put, zA_, zB_, zC_, i64_w, i32_w]
              rfl
             refine pure_ (i := 6) (N := some 89) (v := ?_) (a' := ?_) #[true, true, true, true, true, true, true, false, false] rfl rfl (any_of HT_.out (by kernel_rfl)) (fun _ _ _ h => h) (Or.inl ⟨by rfl, ?_⟩) ?_ ?_
             rotate_left
             ·intro w'
              go_simp
              with_reducible rfl
             rotate_left
             ·simp only [Act.put, zA_, zB_, zC_, i64_w, i32_w]
              rfl
             refine pure_ (i := 7) (N := some 10) (v := ?_) (a' := ?_) #[true, true, true, true, true, true, true, true, false] rfl rfl (any_of HT_.out (by kernel_rfl)) (fun _ _ _ h => h) (Or.inl ⟨by rfl, ?_⟩) ?_ ?_
             rotate_left
             ·intro w'
              go_simp
              with_reducible rfl
             rotate_left
             ·simp only [Act.put, zA_, zB_, zC_, i64_w, i32_w]
              rfl
             refine pure_ (i := 8) (N := some 11) (v := ?_) (a' := ?_) #[true, true, true, true, true, true, true, true, true] rfl rfl (any_of HT_.out (by kernel_rfl)) (fun _ _ _ h => h) (Or.inl ⟨by rfl, ?_⟩) ?_ ?_
             rotate_left
             ·intro w'
              go_simp
              with_reducible rfl
             rotate_left
             ·simp only [Act.put, zA_, zB_, zC_, i64_w, i32_w]
              rfl
             refine done_ (done_of HT_.out (by kernel_rfl)) ?_
             go_upto_region 14 with (first | ((with_reducible refine gate_callee (f := 19) rfl ?_); refine goesL_ (some 92) rfl rfl Try.func19 (by kernel_rfl) rfl #[.pointer (some ⟨g525, 0, none⟩)] rfl (by (try simp only [List.map_toArray, List.map_cons, List.map_nil]); first | done | rfl) ?_; (with_reducible refine (period_Year_Next_A.calls kj31 g525 t559 t560 t561 t562 t563 t564 t565 t566 t567 t570 t571 t572 t573 t574 t575 t576 t577 t578 t580 w _ ?side1 ?side2 A49.out).mono ?_); (case side1 => repeat (first | (with_reducible first | exact HI525.out | apply sA_ | apply sN_ | apply sD_ | refine sF_ ?_ NB525_514.out _ | refine sF_ ?_ NB525_531.out _) | exact HI525.out)); (case side2 => repeat (first | (with_reducible first | exact HB.out | apply lA_ | apply lN_ | apply lD_ | refine lS_ ?_ (sG_ HI525.out) | refine lS_ ?_ GE514.out | refine lS_ ?_ GE531.out) | exact HB.out)); rintro e w57 ⟨g579, rfl, hi, hb, hb2, hge⟩; refine ⟨_, rfl, ?_⟩; have n0_ := a0_ (bB_ (g := gb514) (o := .cells #[.int .i64 a1_0, .int .i64 a1_1, .int .i64 a1_2] 23 (0, 0)) (by (with_reducible repeat first | apply bN_ | apply bD_ | apply bA_); exact BK514.out) hb2); have n1_ := a0_ (bB_ (g := gb531) (o := .cells #[.int .i64 t527, .int .i64 t528, .int .i64 t529] 23 (0, 0)) (by (with_reducible repeat first | apply bN_ | apply bD_ | apply bA_); exact BK531.out) hb2); have n2_ := a0_ (IsS62.below (by repeat (first | (with_reducible first | exact HI525.out | apply sA_ | apply sN_ | apply sD_ | refine sF_ ?_ NB525_514.out _ | refine sF_ ?_ NB525_531.out _) | exact HI525.out)) hb2); have n3_ := a0_ (hb); have n4_ := a0_ (hi); have n5_ := a0_ (Nat.ne_of_gt (Nat.lt_of_lt_of_le (IsS62.lt (show IsS62 w _ g525 t559 t560 t561 t562 t563 t564 t565 t566 t567 from by repeat (first | (with_reducible first | exact HI525.out | apply sA_ | apply sN_ | apply sD_ | refine sF_ ?_ NB525_514.out _ | refine sF_ ?_ NB525_531.out _) | exact HI525.out))) hge)); have n6_ := a0_ (Nat.ne_of_lt (Nat.lt_of_lt_of_le (IsS62.lt (show IsS62 w _ g525 t559 t560 t561 t562 t563 t564 t565 t566 t567 from by repeat (first | (with_reducible first | exact HI525.out | apply sA_ | apply sN_ | apply sD_ | refine sF_ ?_ NB525_514.out _ | refine sF_ ?_ NB525_531.out _) | exact HI525.out))) hge)); have n7_ := a0_ (IsS62.ne_blk hi (bB_ (g := gb514) (o := .cells #[.int .i64 a1_0, .int .i64 a1_1, .int .i64 a1_2] 23 (0, 0)) (by (with_reducible repeat first | apply bN_ | apply bD_ | apply bA_); exact BK514.out) hb2) (by decide)); have n8_ := a0_ (Ne.symm (IsS62.ne_blk hi (bB_ (g := gb514) (o := .cells #[.int .i64 a1_0, .int .i64 a1_1, .int .i64 a1_2] 23 (0, 0)) (by (with_reducible repeat first | apply bN_ | apply bD_ | apply bA_); exact BK514.out) hb2) (by decide))); have n9_ := a0_ (IsS62.ne_blk hi (bB_ (g := gb531) (o := .cells #[.int .i64 t527, .int .i64 t528, .int .i64 t529] 23 (0, 0)) (by (with_reducible repeat first | apply bN_ | apply bD_ | apply bA_); exact BK531.out) hb2) (by decide)); have n10_ := a0_ (Ne.symm (IsS62.ne_blk hi (bB_ (g := gb531) (o := .cells #[.int .i64 t527, .int .i64 t528, .int .i64 t529] 23 (0, 0)) (by (with_reducible repeat first | apply bN_ | apply bD_ | apply bA_); exact BK531.out) hb2) (by decide))); clear BK514; clear BK531; clear HI525; clear HB; have BK514 := n0_; have BK531 := n1_; have HI525 := n2_; have HB := n3_; have HI579 := n4_; have NB579_525 := n5_; have NB525_579 := n6_; have NB579_514 := n7_; have NB514_579 := n8_; have NB579_531 := n9_; have NB531_579 := n10_; clear n0_ n1_ n2_ n3_ n4_ n5_ n6_ n7_ n8_ n9_ n10_; (try clear hb); (try clear hb2); (try clear hk); (try clear hi)))
             (try simp only [Act.put, zA_, zB_, zC_])
             go_cut [102] (fun v102 wc => ∃ (kq : Nat) (x102_49 : Bool), v102 = .bool x102_49 ∧ Aside0 (stipendlaw04_PeriodMakes.j3 kq a0 (wrap64 (t554 - t555)) t580 x102_49 t559 t560 t561 t562 t563 t564 t565 t566 t567 t527 t528 t529 t570 t571 t572 t573 t574 t575 t576 t577 t578 = some r) ∧ Aside0 (kq ≤ kj31) ∧ Aside0 (wc.heap[gb514]? = some (.cells #[.int .i64 a1_0, .int .i64 a1_1, .int .i64 a1_2] 23 (0, 0))) ∧ Aside0 (wc.heap[gb531]? = some (.cells #[.int .i64 t527, .int .i64 t528, .int .i64 t529] 23 (0, 0))) ∧ Aside0 (IsS62 w wc g525 t559 t560 t561 t562 t563 t564 t565 t566 t567) ∧ Aside0 (IsS62 w wc g579 t570 t571 t572 t573 t574 t575 t576 t577 t578) ∧ Aside0 (Below w.heap.size w wc))
             case first =>
              have H := HC50.out
              clear HC50
              by_cases c58 : t569 = 0
              ·rw [if_pos c58] at H
               have c58b0 : (t569 == 0) = true := beq_iff_eq.mpr c58
               have c58b1 : (t569 != 0) = false := bne_eq_false_iff_eq.mpr c58
               clear c58
               (first | rw [c58b0] | (simp only [i64_w, i32_w]; rw [c58b0]) | skip)
               have H' := a0_ H
               clear H
               go_wp2
               go_meet
               case rel => exact ⟨_, ((t568 != (wrap64 ((wrap64 (t554 - t555)) - 1)))), (by first | rfl | (simp; done) | (simp [*]; done)), H', ⟨by have := HJ6.out; have := HJ14.out; have := HJ31.out; first | omega | exact Nat.le_refl _⟩, ⟨by (with_reducible repeat first | apply bN_ | apply bD_ | apply bA_); exact BK514.out⟩, ⟨by (with_reducible repeat first | apply bN_ | apply bD_ | apply bA_); exact BK531.out⟩, ⟨by repeat (first | (with_reducible first | exact HI525.out | apply sA_ | apply sN_ | apply sD_ | refine sF_ ?_ NB525_514.out _ | refine sF_ ?_ NB525_531.out _) | exact HI525.out)⟩, ⟨by repeat (first | (with_reducible first | exact HI579.out | apply sA_ | apply sN_ | apply sD_ | refine sF_ ?_ NB579_514.out _ | refine sF_ ?_ NB579_531.out _) | exact HI579.out)⟩, ⟨by repeat (first | (with_reducible first | exact HB.out | apply lA_ | apply lN_ | apply lD_ | refine lS_ ?_ (sG_ HI525.out) | refine lS_ ?_ (sG_ HI579.out) | refine lS_ ?_ GE514.out | refine lS_ ?_ GE531.out) | exact HB.out)⟩⟩
              ·rw [if_neg c58] at H
               have c58b0 : (t569 == 0) = false := beq_eq_false_iff_ne.mpr c58
               have c58b1 : (t569 != 0) = true := bne_iff_ne.mpr c58
               (first | rw [c58b0] | (simp only [i64_w, i32_w]; rw [c58b0]) | skip)
               have H' := a0_ H
               clear H
               go_wp2
               go_meet
               case rel => exact ⟨_, (true), (by first | rfl | (simp; done) | (simp [*]; done)), H', ⟨by have := HJ6.out; have := HJ14.out; have := HJ31.out; first | omega | exact Nat.le_refl _⟩, ⟨by (with_reducible repeat first | apply bN_ | apply bD_ | apply bA_); exact BK514.out⟩, ⟨by (with_reducible repeat first | apply bN_ | apply bD_ | apply bA_); exact BK531.out⟩, ⟨by repeat (first | (with_reducible first | exact HI525.out | apply sA_ | apply sN_ | apply sD_ | refine sF_ ?_ NB525_514.out _ | refine sF_ ?_ NB525_531.out _) | exact HI525.out)⟩, ⟨by repeat (first | (with_reducible first | exact HI579.out | apply sA_ | apply sN_ | apply sD_ | refine sF_ ?_ NB579_514.out _ | refine sF_ ?_ NB579_531.out _) | exact HI579.out)⟩, ⟨by repeat (first | (with_reducible first | exact HB.out | apply lA_ | apply lN_ | apply lD_ | refine lS_ ?_ (sG_ HI525.out) | refine lS_ ?_ (sG_ HI579.out) | refine lS_ ?_ GE514.out | refine lS_ ?_ GE531.out) | exact HB.out)⟩⟩
             case rest =>
              clear HC50
              try clear p2
              try clear c4
              try clear c5
              try clear c23
              try clear c31
              try clear c33
              try clear c33b0
              try clear c33b1
              try clear c35
              try clear c35b0
              try clear c43
              try clear c48
              try clear c48b0
              try clear c58
              try clear c58b0
              try clear c58b1
              try clear hcz22_0
              try clear hcz22_1
              try clear hcz22_2
              try clear hcz27_0
              try clear hcz27_1
              try clear hcz27_2
              try clear hcz30_0
              try clear hcz30_1
              try clear hcz30_2
              try clear hfz10_0
              try clear hfz10_1
              try clear hfz10_2
              try clear hfz17_0
              try clear hfz17_1
              try clear hfz17_2
              try clear hfz22_0
              try clear hfz22_1
              try clear hfz22_2
              try clear hfz27_0
              try clear hfz27_1
              try clear hfz27_2
              try clear hfz30_0
              try clear hfz30_1
              try clear hfz30_2
              try clear p2
              obtain ⟨kq, x102_49, rfl, HA, HJ49, BK514, BK531, HI525, HI579, HB⟩ := hcut
              cases kq with
              | zero => exact absurd HA.out (by simp [stipendlaw04_PeriodMakes.j3])
              | succ kj49 =>
               have H := HA.out
               clear HA
               simp only [stipendlaw04_PeriodMakes.j3] at H
               by_cases c59 : x102_49 = true
               ·subst c59
                have H1 : (none) = some r := by rw [if_pos rfl] at H; exact H
                clear H
                have H := H1
                clear H1
                exact absurd H (by simp)
               ·replace c59 := Bool.eq_false_iff.mpr c59
                subst c59
                have H1 : ((stipendref03_Months.f kj49 t527 t528 t529 12).bind fun bt581 => (if bt581.2.2.2 = true then (if t580 = 0 then ((period_Year_Start.f t570 t571 t572 t573 t574 t575 t576 t577 t578).bind fun bt586 => (if (!(bt586.1 == t527) || (!(bt586.2.1 == t528) || (!(bt586.2.2.1 == t529)))) = true then (none) else ((period_Year_Freq.f bt586.2.2.2.1 bt586.2.2.2.2.1 bt586.2.2.2.2.2.1 bt586.2.2.2.2.2.2.1 bt586.2.2.2.2.2.2.2.1 bt586.2.2.2.2.2.2.2.2.1 bt586.2.2.2.2.2.2.2.2.2.1 bt586.2.2.2.2.2.2.2.2.2.2.1 bt586.2.2.2.2.2.2.2.2.2.2.2).bind fun bt598 => (if bt598.1 = a0 then (if 0 ≤ a0 then (if a0 < 5 then ((period_Year_Count.f t559 t560 t561 t562 t563 t564 t565 t566 t567).bind fun bt608 => (if bt608.1 = (rd ([0, wrap64 (Int.tdiv (wrap64 ((wrap64 (t554 - t555)) + 6)) 7), wrap64 (Int.tdiv (wrap64 ((wrap64 (t554 - t555)) + 13)) 14), wrap64 (Int.tdiv (wrap64 ((wrap64 (t554 - t555)) + 27)) 28), 12] : List Int) a0) then (if (rd ([0, wrap64 (Int.tdiv (wrap64 ((wrap64 (t554 - t555)) + 6)) 7), wrap64 (Int.tdiv (wrap64 ((wrap64 (t554 - t555)) + 13)) 14), wrap64 (Int.tdiv (wrap64 ((wrap64 (t554 - t555)) + 27)) 28), 12] : List Int) a0) ≤ 53 then ((period_Nominal.f a0).bind fun t618 => (some (decide ((rd ([0, wrap64 (Int.tdiv (wrap64 ((wrap64 (t554 - t555)) + 6)) 7), wrap64 (Int.tdiv (wrap64 ((wrap64 (t554 - t555)) + 13)) 14), wrap64 (Int.tdiv (wrap64 ((wrap64 (t554 - t555)) + 27)) 28), 12] : List Int) a0) ≥ t618)))) else (none)) else (none))) else (none)) else (none)) else (none))))) else (none)) else (none))) = some r := by rw [if_neg (show ¬ (false = true) by decide)] at H; exact H
                clear H
                have H := H1
                clear H1
                replace H := oB_ H
                obtain ⟨⟨t581, t582, t583, t584⟩, A600, H⟩ := H
                replace H : (if t584 = true then (if t580 = 0 then ((period_Year_Start.f t570 t571 t572 t573 t574 t575 t576 t577 t578).bind fun bt586 => (if (!(bt586.1 == t527) || (!(bt586.2.1 == t528) || (!(bt586.2.2.1 == t529)))) = true then (none) else ((period_Year_Freq.f bt586.2.2.2.1 bt586.2.2.2.2.1 bt586.2.2.2.2.2.1 bt586.2.2.2.2.2.2.1 bt586.2.2.2.2.2.2.2.1 bt586.2.2.2.2.2.2.2.2.1 bt586.2.2.2.2.2.2.2.2.2.1 bt586.2.2.2.2.2.2.2.2.2.2.1 bt586.2.2.2.2.2.2.2.2.2.2.2).bind fun bt598 => (if bt598.1 = a0 then (if 0 ≤ a0 then (if a0 < 5 then ((period_Year_Count.f t559 t560 t561 t562 t563 t564 t565 t566 t567).bind fun bt608 => (if bt608.1 = (rd ([0, wrap64 (Int.tdiv (wrap64 ((wrap64 (t554 - t555)) + 6)) 7), wrap64 (Int.tdiv (wrap64 ((wrap64 (t554 - t555)) + 13)) 14), wrap64 (Int.tdiv (wrap64 ((wrap64 (t554 - t555)) + 27)) 28), 12] : List Int) a0) then (if (rd ([0, wrap64 (Int.tdiv (wrap64 ((wrap64 (t554 - t555)) + 6)) 7), wrap64 (Int.tdiv (wrap64 ((wrap64 (t554 - t555)) + 13)) 14), wrap64 (Int.tdiv (wrap64 ((wrap64 (t554 - t555)) + 27)) 28), 12] : List Int) a0) ≤ 53 then ((period_Nominal.f a0).bind fun t618 => (some (decide ((rd ([0, wrap64 (Int.tdiv (wrap64 ((wrap64 (t554 - t555)) + 6)) 7), wrap64 (Int.tdiv (wrap64 ((wrap64 (t554 - t555)) + 13)) 14), wrap64 (Int.tdiv (wrap64 ((wrap64 (t554 - t555)) + 27)) 28), 12] : List Int) a0) ≥ t618)))) else (none)) else (none))) else (none)) else (none)) else (none))))) else (none)) else (none)) = some r := H
                have A60 := a0_ A600
                clear A600
                by_cases c61 : t584 = true
                ·subst c61
                 have H1 : (if t580 = 0 then ((period_Year_Start.f t570 t571 t572 t573 t574 t575 t576 t577 t578).bind fun bt586 => (if (!(bt586.1 == t527) || (!(bt586.2.1 == t528) || (!(bt586.2.2.1 == t529)))) = true then (none) else ((period_Year_Freq.f bt586.2.2.2.1 bt586.2.2.2.2.1 bt586.2.2.2.2.2.1 bt586.2.2.2.2.2.2.1 bt586.2.2.2.2.2.2.2.1 bt586.2.2.2.2.2.2.2.2.1 bt586.2.2.2.2.2.2.2.2.2.1 bt586.2.2.2.2.2.2.2.2.2.2.1 bt586.2.2.2.2.2.2.2.2.2.2.2).bind fun bt598 => (if bt598.1 = a0 then (if 0 ≤ a0 then (if a0 < 5 then ((period_Year_Count.f t559 t560 t561 t562 t563 t564 t565 t566 t567).bind fun bt608 => (if bt608.1 = (rd ([0, wrap64 (Int.tdiv (wrap64 ((wrap64 (t554 - t555)) + 6)) 7), wrap64 (Int.tdiv (wrap64 ((wrap64 (t554 - t555)) + 13)) 14), wrap64 (Int.tdiv (wrap64 ((wrap64 (t554 - t555)) + 27)) 28), 12] : List Int) a0) then (if (rd ([0, wrap64 (Int.tdiv (wrap64 ((wrap64 (t554 - t555)) + 6)) 7), wrap64 (Int.tdiv (wrap64 ((wrap64 (t554 - t555)) + 13)) 14), wrap64 (Int.tdiv (wrap64 ((wrap64 (t554 - t555)) + 27)) 28), 12] : List Int) a0) ≤ 53 then ((period_Nominal.f a0).bind fun t618 => (some (decide ((rd ([0, wrap64 (Int.tdiv (wrap64 ((wrap64 (t554 - t555)) + 6)) 7), wrap64 (Int.tdiv (wrap64 ((wrap64 (t554 - t555)) + 13)) 14), wrap64 (Int.tdiv (wrap64 ((wrap64 (t554 - t555)) + 27)) 28), 12] : List Int) a0) ≥ t618)))) else (none)) else (none))) else (none)) else (none)) else (none))))) else (none)) = some r := by rw [if_pos rfl] at H; exact H
                 clear H
                 have H := H1
                 clear H1
                 by_cases c62 : t580 = 0
                 ·rw [if_pos c62] at H
                  have c62b0 : (t580 == 0) = true := beq_iff_eq.mpr c62
                  have c62b1 : (t580 != 0) = false := bne_eq_false_iff_eq.mpr c62
                  clear c62
                  replace H := oB_ H
                  obtain ⟨⟨t586, t587, t588, t589, t590, t591, t592, t593, t594, t595, t596, t597⟩, A630, H⟩ := H
                  replace H : (if (!(t586 == t527) || (!(t587 == t528) || (!(t588 == t529)))) = true then (none) else ((period_Year_Freq.f t589 t590 t591 t592 t593 t594 t595 t596 t597).bind fun bt598 => (if bt598.1 = a0 then (if 0 ≤ a0 then (if a0 < 5 then ((period_Year_Count.f t559 t560 t561 t562 t563 t564 t565 t566 t567).bind fun bt608 => (if bt608.1 = (rd ([0, wrap64 (Int.tdiv (wrap64 ((wrap64 (t554 - t555)) + 6)) 7), wrap64 (Int.tdiv (wrap64 ((wrap64 (t554 - t555)) + 13)) 14), wrap64 (Int.tdiv (wrap64 ((wrap64 (t554 - t555)) + 27)) 28), 12] : List Int) a0) then (if (rd ([0, wrap64 (Int.tdiv (wrap64 ((wrap64 (t554 - t555)) + 6)) 7), wrap64 (Int.tdiv (wrap64 ((wrap64 (t554 - t555)) + 13)) 14), wrap64 (Int.tdiv (wrap64 ((wrap64 (t554 - t555)) + 27)) 28), 12] : List Int) a0) ≤ 53 then ((period_Nominal.f a0).bind fun t618 => (some (decide ((rd ([0, wrap64 (Int.tdiv (wrap64 ((wrap64 (t554 - t555)) + 6)) 7), wrap64 (Int.tdiv (wrap64 ((wrap64 (t554 - t555)) + 13)) 14), wrap64 (Int.tdiv (wrap64 ((wrap64 (t554 - t555)) + 27)) 28), 12] : List Int) a0) ≥ t618)))) else (none)) else (none))) else (none)) else (none)) else (none)))) = some r := H
                  have A63 := a0_ A630
                  clear A630
                  by_cases c64 : (!(t586 == t527) || (!(t587 == t528) || (!(t588 == t529)))) = true
                  ·rw [if_pos c64] at H
                   have c64b0 : (!(t586 == t527) || (!(t587 == t528) || (!(t588 == t529)))) = true := c64
                   clear c64
                   exact absurd H (by simp)
                  ·rw [if_neg c64] at H
                   have c64b0 : (!(t586 == t527) || (!(t587 == t528) || (!(t588 == t529)))) = false := by simpa using c64
                   clear c64
                   replace H := oB_ H
                   obtain ⟨⟨t598, t599, t600, t601, t602, t603, t604, t605, t606, t607⟩, A650, H⟩ := H
                   replace H : (if t598 = a0 then (if 0 ≤ a0 then (if a0 < 5 then ((period_Year_Count.f t559 t560 t561 t562 t563 t564 t565 t566 t567).bind fun bt608 => (if bt608.1 = (rd ([0, wrap64 (Int.tdiv (wrap64 ((wrap64 (t554 - t555)) + 6)) 7), wrap64 (Int.tdiv (wrap64 ((wrap64 (t554 - t555)) + 13)) 14), wrap64 (Int.tdiv (wrap64 ((wrap64 (t554 - t555)) + 27)) 28), 12] : List Int) a0) then (if (rd ([0, wrap64 (Int.tdiv (wrap64 ((wrap64 (t554 - t555)) + 6)) 7), wrap64 (Int.tdiv (wrap64 ((wrap64 (t554 - t555)) + 13)) 14), wrap64 (Int.tdiv (wrap64 ((wrap64 (t554 - t555)) + 27)) 28), 12] : List Int) a0) ≤ 53 then ((period_Nominal.f a0).bind fun t618 => (some (decide ((rd ([0, wrap64 (Int.tdiv (wrap64 ((wrap64 (t554 - t555)) + 6)) 7), wrap64 (Int.tdiv (wrap64 ((wrap64 (t554 - t555)) + 13)) 14), wrap64 (Int.tdiv (wrap64 ((wrap64 (t554 - t555)) + 27)) 28), 12] : List Int) a0) ≥ t618)))) else (none)) else (none))) else (none)) else (none)) else (none)) = some r := H
                   have A65 := a0_ A650
                   clear A650
                   by_cases c66 : t598 = a0
                   ·rw [if_pos c66] at H
                    have c66b0 : (t598 == a0) = true := beq_iff_eq.mpr c66
                    have c66b1 : (t598 != a0) = false := bne_eq_false_iff_eq.mpr c66
                    clear c66
                    by_cases c67 : 0 ≤ a0
                    ·rw [if_pos c67] at H
                     have c67b0 : decide (0 ≤ a0) = true := decide_eq_true c67
                     clear c67
                     by_cases c68 : a0 < 5
                     ·rw [if_pos c68] at H
                      have c68b0 : decide (a0 < 5) = true := decide_eq_true c68
                      try have hix44_ := fun (p0 p1 p2 p3 p4 : Int) (W : World) => ints44_4_at (i := a0) (by first | omega | exact of_decide_eq_true (by assumption)) (of_decide_eq_true c68b0) p0 p1 p2 p3 p4 W
                      clear c68
                      replace H := oB_ H
                      obtain ⟨⟨t608, t609, t610, t611, t612, t613, t614, t615, t616, t617⟩, A690, H⟩ := H
                      replace H : (if t608 = (rd ([0, wrap64 (Int.tdiv (wrap64 ((wrap64 (t554 - t555)) + 6)) 7), wrap64 (Int.tdiv (wrap64 ((wrap64 (t554 - t555)) + 13)) 14), wrap64 (Int.tdiv (wrap64 ((wrap64 (t554 - t555)) + 27)) 28), 12] : List Int) a0) then (if (rd ([0, wrap64 (Int.tdiv (wrap64 ((wrap64 (t554 - t555)) + 6)) 7), wrap64 (Int.tdiv (wrap64 ((wrap64 (t554 - t555)) + 13)) 14), wrap64 (Int.tdiv (wrap64 ((wrap64 (t554 - t555)) + 27)) 28), 12] : List Int) a0) ≤ 53 then ((period_Nominal.f a0).bind fun t618 => (some (decide ((rd ([0, wrap64 (Int.tdiv (wrap64 ((wrap64 (t554 - t555)) + 6)) 7), wrap64 (Int.tdiv (wrap64 ((wrap64 (t554 - t555)) + 13)) 14), wrap64 (Int.tdiv (wrap64 ((wrap64 (t554 - t555)) + 27)) 28), 12] : List Int) a0) ≥ t618)))) else (none)) else (none)) = some r := H
                      have A69 := a0_ A690
                      clear A690
                      by_cases c70 : t608 = (rd ([0, wrap64 (Int.tdiv (wrap64 ((wrap64 (t554 - t555)) + 6)) 7), wrap64 (Int.tdiv (wrap64 ((wrap64 (t554 - t555)) + 13)) 14), wrap64 (Int.tdiv (wrap64 ((wrap64 (t554 - t555)) + 27)) 28), 12] : List Int) a0)
                      ·rw [if_pos c70] at H
                       have c70b0 : (t608 == (rd ([0, wrap64 (Int.tdiv (wrap64 ((wrap64 (t554 - t555)) + 6)) 7), wrap64 (Int.tdiv (wrap64 ((wrap64 (t554 - t555)) + 13)) 14), wrap64 (Int.tdiv (wrap64 ((wrap64 (t554 - t555)) + 27)) 28), 12] : List Int) a0)) = true := beq_iff_eq.mpr c70
                       have c70b1 : (t608 != (rd ([0, wrap64 (Int.tdiv (wrap64 ((wrap64 (t554 - t555)) + 6)) 7), wrap64 (Int.tdiv (wrap64 ((wrap64 (t554 - t555)) + 13)) 14), wrap64 (Int.tdiv (wrap64 ((wrap64 (t554 - t555)) + 27)) 28), 12] : List Int) a0)) = false := bne_eq_false_iff_eq.mpr c70
                       clear c70
                       by_cases c71 : (rd ([0, wrap64 (Int.tdiv (wrap64 ((wrap64 (t554 - t555)) + 6)) 7), wrap64 (Int.tdiv (wrap64 ((wrap64 (t554 - t555)) + 13)) 14), wrap64 (Int.tdiv (wrap64 ((wrap64 (t554 - t555)) + 27)) 28), 12] : List Int) a0) ≤ 53
                       ·rw [if_pos c71] at H
                        have c71b0 : decide ((rd ([0, wrap64 (Int.tdiv (wrap64 ((wrap64 (t554 - t555)) + 6)) 7), wrap64 (Int.tdiv (wrap64 ((wrap64 (t554 - t555)) + 13)) 14), wrap64 (Int.tdiv (wrap64 ((wrap64 (t554 - t555)) + 27)) 28), 12] : List Int) a0) ≤ 53) = true := decide_eq_true c71
                        clear c71
                        replace H := oB_ H
                        obtain ⟨t618, A720, H⟩ := H
                        replace H : (some (decide ((rd ([0, wrap64 (Int.tdiv (wrap64 ((wrap64 (t554 - t555)) + 6)) 7), wrap64 (Int.tdiv (wrap64 ((wrap64 (t554 - t555)) + 13)) 14), wrap64 (Int.tdiv (wrap64 ((wrap64 (t554 - t555)) + 27)) 28), 12] : List Int) a0) ≥ t618))) = some r := H
                        have A72 := a0_ A720
                        clear A720
                        obtain rfl := Option.some.inj H
                        have hnb73 := NB531_514.out
                        have hnc73 := NB514_531.out
                        have hnb74 := NB531_525.out
                        have hnc74 := NB525_531.out
                        have hnb75 := NB531_579.out
                        have hnc75 := NB579_531.out
                        have hcz76_0 : wc.cell? ⟨gb531, 0, none⟩ = some (.int .i64 t527) := (bC_ BK531.out 0).trans rfl
                        have hcz76_1 : wc.cell? ⟨gb531, 1, none⟩ = some (.int .i64 t528) := (bC_ BK531.out 1).trans rfl
                        have hcz76_2 : wc.cell? ⟨gb531, 2, none⟩ = some (.int .i64 t529) := (bC_ BK531.out 2).trans rfl
                        have hfz76_0 := bF_ BK531.out 0
                        have hfz76_1 := bF_ BK531.out 1
                        have hfz76_2 := bF_ BK531.out 2
                        try go_wp2_with (first | ((with_reducible refine gate_callee (f := 21) rfl ?_); refine goesL_ (some 105) rfl rfl Try.func21 (by kernel_rfl) rfl #[.agg #[.int .i64 t527, .int .i64 t528, .int .i64 t529], .int .i64 12] rfl (by (try simp only [List.map_toArray, List.map_cons, List.map_nil]); first | done | rfl) ?_; (with_reducible refine (stipendref03_Months.calls kj49 t527 t528 t529 12 t581 t582 t583 true _ A60.out).mono ?_); rintro e w77 ⟨rfl, hb⟩; refine ⟨_, rfl, ?_⟩; have n0_ := a0_ (bB_ (g := gb514) (o := .cells #[.int .i64 a1_0, .int .i64 a1_1, .int .i64 a1_2] 23 (0, 0)) (by (with_reducible repeat first | apply bN_ | apply bD_ | apply bA_); exact BK514.out) hb); have n1_ := a0_ (bB_ (g := gb531) (o := .cells #[.int .i64 t527, .int .i64 t528, .int .i64 t529] 23 (0, 0)) (by (with_reducible repeat first | apply bN_ | apply bD_ | apply bA_); exact BK531.out) hb); have n2_ := a0_ (IsS62.below (by repeat (first | (with_reducible first | exact HI525.out | apply sA_ | apply sN_ | apply sD_ | refine sF_ ?_ NB525_514.out _ | refine sF_ ?_ NB525_531.out _) | exact HI525.out)) hb); have n3_ := a0_ (IsS62.below (by repeat (first | (with_reducible first | exact HI579.out | apply sA_ | apply sN_ | apply sD_ | refine sF_ ?_ NB579_514.out _ | refine sF_ ?_ NB579_531.out _) | exact HI579.out)) hb); have n4_ := a0_ (below_step (by repeat (first | (with_reducible first | exact HB.out | apply lA_ | apply lN_ | apply lD_ | refine lS_ ?_ (sG_ HI525.out) | refine lS_ ?_ (sG_ HI579.out) | refine lS_ ?_ GE514.out | refine lS_ ?_ GE531.out) | exact HB.out)) hb); clear BK514; clear BK531; clear HI525; clear HI579; clear HB; have BK514 := n0_; have BK531 := n1_; have HI525 := n2_; have HI579 := n3_; have HB := n4_; clear n0_ n1_ n2_ n3_ n4_; (try clear hb); (try clear hb2); (try clear hk); (try clear hi)) | ((with_reducible refine gate_dst (N := 14) rfl ?_); refine box_event ?hg (N := 14) ?hd (cs := #[.int .i64 0, .int .i64 0, .int .i64 0]) (t := 23) ?hr ?_; (case hd => rfl); (case hg => rfl); (case hr => first | (go_simp; done) | (go_simp; rfl)); intro gb585 hg w78 hbox hb; have n0_ := a0_ (bB_ (g := gb514) (o := .cells #[.int .i64 a1_0, .int .i64 a1_1, .int .i64 a1_2] 23 (0, 0)) (by (with_reducible repeat first | apply bN_ | apply bD_ | apply bA_); exact BK514.out) hb); have n1_ := a0_ (bB_ (g := gb531) (o := .cells #[.int .i64 t527, .int .i64 t528, .int .i64 t529] 23 (0, 0)) (by (with_reducible repeat first | apply bN_ | apply bD_ | apply bA_); exact BK531.out) hb); have n2_ := a0_ (IsS62.below (by repeat (first | (with_reducible first | exact HI525.out | apply sA_ | apply sN_ | apply sD_ | refine sF_ ?_ NB525_514.out _ | refine sF_ ?_ NB525_531.out _) | exact HI525.out)) hb); have n3_ := a0_ (IsS62.below (by repeat (first | (with_reducible first | exact HI579.out | apply sA_ | apply sN_ | apply sD_ | refine sF_ ?_ NB579_514.out _ | refine sF_ ?_ NB579_531.out _) | exact HI579.out)) hb); have n4_ := a0_ (below_step (by repeat (first | (with_reducible first | exact HB.out | apply lA_ | apply lN_ | apply lD_ | refine lS_ ?_ (sG_ HI525.out) | refine lS_ ?_ (sG_ HI579.out) | refine lS_ ?_ GE514.out | refine lS_ ?_ GE531.out) | exact HB.out)) hb); have n5_ := a0_ (hbox); have n6_ := a0_ ((by rw [hg]; exact (below_size (by repeat (first | (with_reducible first | exact HB.out | apply lA_ | apply lN_ | apply lD_ | refine lS_ ?_ (sG_ HI525.out) | refine lS_ ?_ (sG_ HI579.out) | refine lS_ ?_ GE514.out | refine lS_ ?_ GE531.out) | exact HB.out))) : w.heap.size ≤ gb585)); have n7_ := a0_ ((by rw [hg]; exact (below_size (by repeat (first | (with_reducible first | exact HB.out | apply lA_ | apply lN_ | apply lD_ | refine lS_ ?_ (sG_ HI525.out) | refine lS_ ?_ (sG_ HI579.out) | refine lS_ ?_ GE514.out | refine lS_ ?_ GE531.out) | exact HB.out))) : w.heap.size ≤ gb585)); have n8_ := a0_ ((by rw [hg]; exact Nat.ne_of_lt (blk_lt (g := gb514) (o := .cells #[.int .i64 a1_0, .int .i64 a1_1, .int .i64 a1_2] 23 (0, 0)) (by (with_reducible repeat first | apply bN_ | apply bD_ | apply bA_); exact BK514.out)) : gb514 ≠ gb585)); have n9_ := a0_ ((by rw [hg]; exact Nat.ne_of_gt (blk_lt (g := gb514) (o := .cells #[.int .i64 a1_0, .int .i64 a1_1, .int .i64 a1_2] 23 (0, 0)) (by (with_reducible repeat first | apply bN_ | apply bD_ | apply bA_); exact BK514.out)) : gb585 ≠ gb514)); have n10_ := a0_ ((by rw [hg]; exact Nat.ne_of_lt (blk_lt (g := gb531) (o := .cells #[.int .i64 t527, .int .i64 t528, .int .i64 t529] 23 (0, 0)) (by (with_reducible repeat first | apply bN_ | apply bD_ | apply bA_); exact BK531.out)) : gb531 ≠ gb585)); have n11_ := a0_ ((by rw [hg]; exact Nat.ne_of_gt (blk_lt (g := gb531) (o := .cells #[.int .i64 t527, .int .i64 t528, .int .i64 t529] 23 (0, 0)) (by (with_reducible repeat first | apply bN_ | apply bD_ | apply bA_); exact BK531.out)) : gb585 ≠ gb531)); have n12_ := a0_ ((by rw [hg]; exact Nat.ne_of_lt (IsS62.lt (show IsS62 w _ g525 t559 t560 t561 t562 t563 t564 t565 t566 t567 from by repeat (first | (with_reducible first | exact HI525.out | apply sA_ | apply sN_ | apply sD_ | refine sF_ ?_ NB525_514.out _ | refine sF_ ?_ NB525_531.out _) | exact HI525.out))) : g525 ≠ gb585)); have n13_ := a0_ ((by rw [hg]; exact Nat.ne_of_gt (IsS62.lt (show IsS62 w _ g525 t559 t560 t561 t562 t563 t564 t565 t566 t567 from by repeat (first | (with_reducible first | exact HI525.out | apply sA_ | apply sN_ | apply sD_ | refine sF_ ?_ NB525_514.out _ | refine sF_ ?_ NB525_531.out _) | exact HI525.out))) : gb585 ≠ g525)); have n14_ := a0_ ((by rw [hg]; exact Nat.ne_of_lt (IsS62.lt (show IsS62 w _ g579 t570 t571 t572 t573 t574 t575 t576 t577 t578 from by repeat (first | (with_reducible first | exact HI579.out | apply sA_ | apply sN_ | apply sD_ | refine sF_ ?_ NB579_514.out _ | refine sF_ ?_ NB579_531.out _) | exact HI579.out))) : g579 ≠ gb585)); have n15_ := a0_ ((by rw [hg]; exact Nat.ne_of_gt (IsS62.lt (show IsS62 w _ g579 t570 t571 t572 t573 t574 t575 t576 t577 t578 from by repeat (first | (with_reducible first | exact HI579.out | apply sA_ | apply sN_ | apply sD_ | refine sF_ ?_ NB579_514.out _ | refine sF_ ?_ NB579_531.out _) | exact HI579.out))) : gb585 ≠ g579)); clear BK514; clear BK531; clear HI525; clear HI579; clear HB; have BK514 := n0_; have BK531 := n1_; have HI525 := n2_; have HI579 := n3_; have HB := n4_; have BK585 := n5_; have GW585 := n6_; have GE585 := n7_; have NB514_585 := n8_; have NB585_514 := n9_; have NB531_585 := n10_; have NB585_531 := n11_; have NB525_585 := n12_; have NB585_525 := n13_; have NB579_585 := n14_; have NB585_579 := n15_; clear n0_ n1_ n2_ n3_ n4_ n5_ n6_ n7_ n8_ n9_ n10_ n11_ n12_ n13_ n14_ n15_; clear hb hbox hg; have hnb79 := NB585_514.out; have hnc79 := NB514_585.out; have hnb80 := NB585_531.out; have hnc80 := NB531_585.out; have hnb81 := NB585_525.out; have hnc81 := NB525_585.out; have hnb82 := NB585_579.out; have hnc82 := NB579_585.out; have hcz83_0 : w78.cell? ⟨gb585, 0, none⟩ = some (.int .i64 0) := (bC_ BK585.out 0).trans rfl; have hcz83_1 : w78.cell? ⟨gb585, 1, none⟩ = some (.int .i64 0) := (bC_ BK585.out 1).trans rfl; have hcz83_2 : w78.cell? ⟨gb585, 2, none⟩ = some (.int .i64 0) := (bC_ BK585.out 2).trans rfl; have hfz83_0 := bF_ BK585.out 0; have hfz83_1 := bF_ BK585.out 1; have hfz83_2 := bF_ BK585.out 2))
                        have n0_ : Aside0 ((((w78.setCell ⟨gb585, 0, none⟩ (.int .i64 t581)).setCell ⟨gb585, 1, none⟩ (.int .i64 t582)).setCell ⟨gb585, 2, none⟩ (.int .i64 t583)).heap[gb514]? = some (.cells #[.int .i64 a1_0, .int .i64 a1_1, .int .i64 a1_2] 23 (0, 0))) := ⟨by (with_reducible repeat first | apply bN_ | apply bD_ | apply bA_); refine blk_far ?_ NB514_585.out _; (with_reducible repeat first | apply bN_ | apply bD_ | apply bA_); refine blk_far ?_ NB514_585.out _; (with_reducible repeat first | apply bN_ | apply bD_ | apply bA_); refine blk_far ?_ NB514_585.out _; (with_reducible repeat first | apply bN_ | apply bD_ | apply bA_); exact BK514.out⟩
                        have n1_ : Aside0 ((((w78.setCell ⟨gb585, 0, none⟩ (.int .i64 t581)).setCell ⟨gb585, 1, none⟩ (.int .i64 t582)).setCell ⟨gb585, 2, none⟩ (.int .i64 t583)).heap[gb531]? = some (.cells #[.int .i64 t527, .int .i64 t528, .int .i64 t529] 23 (0, 0))) := ⟨by (with_reducible repeat first | apply bN_ | apply bD_ | apply bA_); refine blk_far ?_ NB531_585.out _; (with_reducible repeat first | apply bN_ | apply bD_ | apply bA_); refine blk_far ?_ NB531_585.out _; (with_reducible repeat first | apply bN_ | apply bD_ | apply bA_); refine blk_far ?_ NB531_585.out _; (with_reducible repeat first | apply bN_ | apply bD_ | apply bA_); exact BK531.out⟩
                        have n2_ : Aside0 ((((w78.setCell ⟨gb585, 0, none⟩ (.int .i64 t581)).setCell ⟨gb585, 1, none⟩ (.int .i64 t582)).setCell ⟨gb585, 2, none⟩ (.int .i64 t583)).heap[gb585]? = some (.cells #[.int .i64 t581, .int .i64 t582, .int .i64 t583] 23 (0, 0))) := ⟨by (with_reducible repeat first | apply bN_ | apply bD_ | apply bA_); refine blk_put (cs := #[.int .i64 t581, .int .i64 t582, .int .i64 0]) ?_ 2 _ rfl; (with_reducible repeat first | apply bN_ | apply bD_ | apply bA_); refine blk_put (cs := #[.int .i64 t581, .int .i64 0, .int .i64 0]) ?_ 1 _ rfl; (with_reducible repeat first | apply bN_ | apply bD_ | apply bA_); refine blk_put (cs := #[.int .i64 0, .int .i64 0, .int .i64 0]) ?_ 0 _ rfl; (with_reducible repeat first | apply bN_ | apply bD_ | apply bA_); exact BK585.out⟩
                        have n3_ : Aside0 (IsS62 w (((w78.setCell ⟨gb585, 0, none⟩ (.int .i64 t581)).setCell ⟨gb585, 1, none⟩ (.int .i64 t582)).setCell ⟨gb585, 2, none⟩ (.int .i64 t583)) g525 t559 t560 t561 t562 t563 t564 t565 t566 t567) := ⟨by repeat (first | (with_reducible first | exact HI525.out | apply sA_ | apply sN_ | apply sD_ | refine sF_ ?_ NB525_514.out _ | refine sF_ ?_ NB525_531.out _ | refine sF_ ?_ NB525_585.out _) | exact HI525.out)⟩
                        have n4_ : Aside0 (IsS62 w (((w78.setCell ⟨gb585, 0, none⟩ (.int .i64 t581)).setCell ⟨gb585, 1, none⟩ (.int .i64 t582)).setCell ⟨gb585, 2, none⟩ (.int .i64 t583)) g579 t570 t571 t572 t573 t574 t575 t576 t577 t578) := ⟨by repeat (first | (with_reducible first | exact HI579.out | apply sA_ | apply sN_ | apply sD_ | refine sF_ ?_ NB579_514.out _ | refine sF_ ?_ NB579_531.out _ | refine sF_ ?_ NB579_585.out _) | exact HI579.out)⟩
                        have n5_ : Aside0 (Below w.heap.size w (((w78.setCell ⟨gb585, 0, none⟩ (.int .i64 t581)).setCell ⟨gb585, 1, none⟩ (.int .i64 t582)).setCell ⟨gb585, 2, none⟩ (.int .i64 t583))) := ⟨by repeat (first | (with_reducible first | exact HB.out | apply lA_ | apply lN_ | apply lD_ | refine lS_ ?_ (sG_ HI525.out) | refine lS_ ?_ (sG_ HI579.out) | refine lS_ ?_ GE514.out | refine lS_ ?_ GE531.out | refine lS_ ?_ GE585.out) | exact HB.out)⟩
                        (try clear BK514)
                        (try clear BK531)
                        (try clear BK585)
                        (try clear HI525)
                        (try clear HI579)
                        (try clear HB)
                        generalize (((w78.setCell ⟨gb585, 0, none⟩ (.int .i64 t581)).setCell ⟨gb585, 1, none⟩ (.int .i64 t582)).setCell ⟨gb585, 2, none⟩ (.int .i64 t583)) = w84 at n0_ n1_ n2_ n3_ n4_ n5_ ⊢
                        have BK514 := n0_
                        have BK531 := n1_
                        have BK585 := n2_
                        have HI525 := n3_
                        have HI579 := n4_
                        have HB := n5_
                        clear n0_ n1_ n2_ n3_ n4_ n5_
                        have n0_ := a0_ (bD_ BK514.out)
                        have n1_ := a0_ (bD_ BK531.out)
                        have n2_ := a0_ (bD_ BK585.out)
                        have n3_ := a0_ (sD_ HI525.out)
                        have n4_ := a0_ (sD_ HI579.out)
                        have n5_ := a0_ (lD_ HB.out)
                        clear BK514
                        clear BK531
                        clear BK585
                        clear HI525
                        clear HI579
                        clear HB
                        have BK514 := n0_
                        have BK531 := n1_
                        have BK585 := n2_
                        have HI525 := n3_
                        have HI579 := n4_
                        have HB := n5_
                        clear n0_ n1_ n2_ n3_ n4_ n5_
                        refine start_ (n := 18) (S := fun w' => w'.cell? ⟨gb531, 0, none⟩ = some (.int .i64 t527) ∧ w'.cell? ⟨gb531, 1, none⟩ = some (.int .i64 t528) ∧ w'.cell? ⟨gb531, 2, none⟩ = some (.int .i64 t529)) (ds := []) #[false, false, false, false, false, false, false, false, false, false, false, false, false, false, false, false, false, false] (by kernel_rfl) rfl rfl ⟨(bC_ BK531.out 0).trans rfl, (bC_ BK531.out 1).trans rfl, (bC_ BK531.out 2).trans rfl⟩ (fun hHeld => ?_); refine with_tabW stipendlaw04_PeriodMakes.tab18 stipendlaw04_PeriodMakes.bits18 (fun HT_ HW_ => ?_)
                        generalize w84.drew = w85 at BK514 BK531 BK585 HI525 HI579 HB hHeld ⊢
                        refine pure_ (i := 0) (N := some 109) (v := ?_) (a' := ?_) #[true, false, false, false, false, false, false, false, false, false, false, false, false, false, false, false, false, false] rfl rfl (any_of HT_.out (by kernel_rfl)) (fun _ _ _ h => h) (Or.inl ⟨by rfl, ?_⟩) ?_ ?_
                        rotate_left
                        ·intro w'
                         go_simp
                         with_reducible rfl
                        rotate_left
                        ·simp only [Act.put, zA_, zB_, zC_, i64_w, i32_w]
                         rfl
                        refine pure_ (i := 1) (N := some 110) (v := ?_) (a' := ?_) #[true, true, false, false, false, false, false, false, false, false, false, false, false, false, false, false, false, false] rfl rfl (any_of HT_.out (by kernel_rfl)) (fun _ _ _ h => h) (Or.inl ⟨by rfl, ?_⟩) ?_ ?_
                        rotate_left
                        ·intro w'
                         go_simp
                         with_reducible rfl
                        rotate_left
                        ·simp only [Act.put, zA_, zB_, zC_, i64_w, i32_w]
                         rfl
                        refine pure_ (i := 2) (N := some 111) (v := ?_) (a' := ?_) #[true, true, true, false, false, false, false, false, false, false, false, false, false, false, false, false, false, false] rfl rfl (any_of HT_.out (by kernel_rfl)) (fun _ _ _ h => h) (Or.inl ⟨by rfl, ?_⟩) ?_ ?_
                        rotate_left
                        ·intro w'
                         go_simp
                         with_reducible rfl
                        rotate_left
                        ·simp only [Act.put, zA_, zB_, zC_, i64_w, i32_w]
                         rfl
                        refine pure_ (i := 3) (N := some 112) (v := ?_) (a' := ?_) #[true, true, true, true, false, false, false, false, false, false, false, false, false, false, false, false, false, false] rfl rfl (any_of HT_.out (by kernel_rfl)) (fun _ _ _ h => h) (Or.inl ⟨by rfl, ?_⟩) ?_ ?_
                        rotate_left
                        ·intro w'
                         go_simp
                         with_reducible rfl
                        rotate_left
                        ·simp only [Act.put, zA_, zB_, zC_, i64_w, i32_w]
                         rfl
                        refine pure_ (i := 4) (N := some 113) (v := ?_) (a' := ?_) #[true, true, true, true, true, false, false, false, false, false, false, false, false, false, false, false, false, false] rfl rfl (any_of HT_.out (by kernel_rfl)) (fun _ _ _ h => h) (Or.inl ⟨by rfl, ?_⟩) ?_ ?_
                        rotate_left
                        ·intro w'
                         go_simp
                         with_reducible rfl
                        rotate_left
                        ·simp only [Act.put, zA_, zB_, zC_, i64_w, i32_w]
                         rfl
                        refine pure_ (i := 5) (N := some 114) (v := ?_) (a' := ?_) #[true, true, true, true, true, true, false, false, false, false, false, false, false, false, false, false, false, false] rfl rfl (any_of HT_.out (by kernel_rfl)) (fun _ _ _ h => h) (Or.inl ⟨by rfl, ?_⟩) ?_ ?_
                        rotate_left
                        ·intro w'
                         go_simp
                         with_reducible rfl
                        rotate_left
                        ·simp only [Act.put, zA_, zB_, zC_, i64_w, i32_w]
                         rfl
                        refine pure_ (i := 6) (N := some 115) (v := ?_) (a' := ?_) #[true, true, true, true, true, true, true, false, false, false, false, false, false, false, false, false, false, false] rfl rfl (any_of HT_.out (by kernel_rfl)) (fun _ _ _ h => h) (Or.inl ⟨by rfl, ?_⟩) ?_ ?_
                        rotate_left
                        ·intro w'
                         go_simp
                         with_reducible rfl
                        rotate_left
                        ·simp only [Act.put, zA_, zB_, zC_, i64_w, i32_w]
                         rfl
                        refine pure_ (i := 7) (N := some 116) (v := ?_) (a' := ?_) #[true, true, true, true, true, true, true, true, false, false, false, false, false, false, false, false, false, false] rfl rfl (any_of HT_.out (by kernel_rfl)) (fun _ _ _ h => h) (Or.inl ⟨by rfl, ?_⟩) ?_ ?_
                        rotate_left
                        ·intro w'
                         go_simp
                         with_reducible rfl
                        rotate_left
                        ·simp only [Act.put, zA_, zB_, zC_, i64_w, i32_w]
                         rfl
                        refine take_ (i := 9) (N := some 118) (v := ?_) (a' := ?_) #[true, true, true, true, true, true, true, true, false, true, false, false, false, false, false, false, false, false] rfl rfl (take_ofW HT_.out HW_.out (by kernel_rfl)) (fun _ _ _ h => h) (Or.inl ⟨by rfl, ?_⟩) hHeld ?_ ?_
                        rotate_left
                        ·rintro w' ⟨s0, s1, s2⟩
                         go_simp
                         with_reducible rfl
                        rotate_left
                        ·simp only [Act.put, zA_, zB_, zC_, i64_w, i32_w]
                         rfl
                        refine one_ (i := 8) (N := some 117) #[true, true, true, true, true, true, true, true, true, true, false, false, false, false, false, false, false, false] rfl rfl (one_of HT_.out (by kernel_rfl)) (by decide) (fun K hK => ?_)
                        refine goes_ Try.func17 (by kernel_rfl) rfl #[.pointer (some ⟨g579, 0, none⟩)] (by rfl) rfl rfl (by (try simp only [List.map_toArray, List.map_cons, List.map_nil]); first | done | rfl) ?_
                        with_reducible refine (period_Year_Start.calls g579 t570 t571 t572 t573 t574 t575 t576 t577 t578 t586 t587 t588 t589 t590 t591 t592 t593 t594 t595 t596 t597 w _ ?side1 ?side2 A63.out).mono ?_
                        (case side1 => repeat (first | (with_reducible first | exact HI579.out | apply sA_ | apply sN_ | apply sD_ | refine sF_ ?_ NB579_514.out _ | refine sF_ ?_ NB579_531.out _ | refine sF_ ?_ NB579_585.out _) | exact HI579.out))
                        (case side2 => repeat (first | (with_reducible first | exact HB.out | apply lA_ | apply lN_ | apply lD_ | refine lS_ ?_ (sG_ HI525.out) | refine lS_ ?_ (sG_ HI579.out) | refine lS_ ?_ GE514.out | refine lS_ ?_ GE531.out | refine lS_ ?_ GE585.out) | exact HB.out))
                        rintro e w86 ⟨rfl, hi, hb, hk⟩
                        refine ⟨_, rfl, ?_⟩
                        have n0_ := a0_ (KeepBut.blk hk (g' := gb514) (o := .cells #[.int .i64 a1_0, .int .i64 a1_1, .int .i64 a1_2] 23 (0, 0)) (by (with_reducible repeat first | apply bN_ | apply bD_ | apply bA_); exact BK514.out) NB514_579.out (by simp))
                        have n1_ := a0_ (KeepBut.blk hk (g' := gb531) (o := .cells #[.int .i64 t527, .int .i64 t528, .int .i64 t529] 23 (0, 0)) (by (with_reducible repeat first | apply bN_ | apply bD_ | apply bA_); exact BK531.out) NB531_579.out (by simp))
                        have n2_ := a0_ (IsS62.keepbut (show IsS62 w _ g525 t559 t560 t561 t562 t563 t564 t565 t566 t567 from by repeat (first | (with_reducible first | exact HI525.out | apply sA_ | apply sN_ | apply sD_ | refine sF_ ?_ NB525_514.out _ | refine sF_ ?_ NB525_531.out _ | refine sF_ ?_ NB525_585.out _) | exact HI525.out)) hk NB525_579.out)
                        have n3_ := a0_ (KeepBut.blk hk (g' := gb585) (o := .cells #[.int .i64 t581, .int .i64 t582, .int .i64 t583] 23 (0, 0)) (by (with_reducible repeat first | apply bN_ | apply bD_ | apply bA_); exact BK585.out) NB585_579.out (by simp))
                        have n4_ := a0_ (hb)
                        have n5_ := a0_ (hi)
                        clear BK514
                        clear BK531
                        clear HI525
                        clear BK585
                        clear HB
                        clear HI579
                        have BK514 := n0_
                        have BK531 := n1_
                        have HI525 := n2_
                        have BK585 := n3_
                        have HB := n4_
                        have HI579 := n5_
                        clear n0_ n1_ n2_ n3_ n4_ n5_
                        (try clear hb)
                        (try clear hb2)
                        (try clear hk)
                        (try clear hi)
                        refine hK.out _ _ ⟨(bC_ BK531.out 0).trans rfl, (bC_ BK531.out 1).trans rfl, (bC_ BK531.out 2).trans rfl⟩ (fun hHeld => ?_)
                        clear hK K
                        refine norm_ (a' := ?_) ?_ ?_
                        rotate_left
                        ·show Act.put _ (some 117) _ = _
                         simp only [Act.put, zA_, zB_, zC_, i64_w, i32_w]
                         rfl
                        refine pure_ (i := 10) (N := some 119) (v := ?_) (a' := ?_) #[true, true, true, true, true, true, true, true, true, true, true, false, false, false, false, false, false, false] rfl rfl (any_of HT_.out (by kernel_rfl)) (fun _ _ _ h => h) (Or.inl ⟨by rfl, ?_⟩) ?_ ?_
                        rotate_left
                        ·intro w'
                         go_simp
                         with_reducible rfl
                        rotate_left
                        ·simp only [Act.put, zA_, zB_, zC_, i64_w, i32_w]
                         rfl
                        refine pure_ (i := 11) (N := some 120) (v := ?_) (a' := ?_) #[true, true, true, true, true, true, true, true, true, true, true, true, false, false, false, false, false, false] rfl rfl (any_of HT_.out (by kernel_rfl)) (fun _ _ _ h => h) (Or.inl ⟨by rfl, ?_⟩) ?_ ?_
                        rotate_left
                        ·intro w'
                         go_simp
                         with_reducible rfl
                        rotate_left
                        ·simp only [Act.put, zA_, zB_, zC_, i64_w, i32_w]
                         rfl
                        refine pure_ (i := 12) (N := some 121) (v := ?_) (a' := ?_) #[true, true, true, true, true, true, true, true, true, true, true, true, true, false, false, false, false, false] rfl rfl (any_of HT_.out (by kernel_rfl)) (fun _ _ _ h => h) (Or.inl ⟨by rfl, ?_⟩) ?_ ?_
                        rotate_left
                        ·intro w'
                         go_simp
                         with_reducible rfl
                        rotate_left
                        ·simp only [Act.put, zA_, zB_, zC_, i64_w, i32_w]
                         rfl
                        refine pure_ (i := 13) (N := some 122) (v := ?_) (a' := ?_) #[true, true, true, true, true, true, true, true, true, true, true, true, true, true, false, false, false, false] rfl rfl (any_of HT_.out (by kernel_rfl)) (fun _ _ _ h => h) (Or.inl ⟨by rfl, ?_⟩) ?_ ?_
                        rotate_left
                        ·intro w'
                         go_simp
                         with_reducible rfl
                        rotate_left
                        ·simp only [Act.put, zA_, zB_, zC_, i64_w, i32_w]
                         rfl
                        refine pure_ (i := 15) (N := some 124) (v := ?_) (a' := ?_) #[true, true, true, true, true, true, true, true, true, true, true, true, true, true, false, true, false, false] rfl rfl (any_of HT_.out (by kernel_rfl)) (fun _ _ _ h => h) (Or.inl ⟨by rfl, ?_⟩) ?_ ?_
                        rotate_left
                        ·intro w'
                         go_simp
                         with_reducible rfl
                        rotate_left
                        ·simp only [Act.put, zA_, zB_, zC_, i64_w, i32_w]
                         rfl
                        refine one_ (i := 14) (N := some 123) #[true, true, true, true, true, true, true, true, true, true, true, true, true, true, true, true, false, false] rfl rfl (one_of HT_.out (by kernel_rfl)) (by decide) (fun K hK => ?_)
                        refine goes_ Try.func22 (by kernel_rfl) rfl #[.pointer (some ⟨g579, 0, none⟩)] (by rfl) rfl rfl (by (try simp only [List.map_toArray, List.map_cons, List.map_nil]); first | done | rfl) ?_
                        with_reducible refine (period_Year_Freq.calls g579 t589 t590 t591 t592 t593 t594 t595 t596 t597 t598 t599 t600 t601 t602 t603 t604 t605 t606 t607 w _ ?side1 ?side2 A65.out).mono ?_
                        (case side1 => repeat (first | (with_reducible first | exact HI579.out | apply sA_ | apply sN_ | apply sD_ | refine sF_ ?_ NB579_514.out _ | refine sF_ ?_ NB579_531.out _ | refine sF_ ?_ NB579_585.out _) | exact HI579.out))
                        (case side2 => repeat (first | (with_reducible first | exact HB.out | apply lA_ | apply lN_ | apply lD_ | refine lS_ ?_ (sG_ HI525.out) | refine lS_ ?_ (sG_ HI579.out) | refine lS_ ?_ GE514.out | refine lS_ ?_ GE531.out | refine lS_ ?_ GE585.out) | exact HB.out))
                        rintro e w87 ⟨rfl, hi, hb, hk⟩
                        refine ⟨_, rfl, ?_⟩
                        have n0_ := a0_ (KeepBut.blk hk (g' := gb514) (o := .cells #[.int .i64 a1_0, .int .i64 a1_1, .int .i64 a1_2] 23 (0, 0)) (by (with_reducible repeat first | apply bN_ | apply bD_ | apply bA_); exact BK514.out) NB514_579.out (by simp))
                        have n1_ := a0_ (KeepBut.blk hk (g' := gb531) (o := .cells #[.int .i64 t527, .int .i64 t528, .int .i64 t529] 23 (0, 0)) (by (with_reducible repeat first | apply bN_ | apply bD_ | apply bA_); exact BK531.out) NB531_579.out (by simp))
                        have n2_ := a0_ (IsS62.keepbut (show IsS62 w _ g525 t559 t560 t561 t562 t563 t564 t565 t566 t567 from by repeat (first | (with_reducible first | exact HI525.out | apply sA_ | apply sN_ | apply sD_ | refine sF_ ?_ NB525_514.out _ | refine sF_ ?_ NB525_531.out _ | refine sF_ ?_ NB525_585.out _) | exact HI525.out)) hk NB525_579.out)
                        have n3_ := a0_ (KeepBut.blk hk (g' := gb585) (o := .cells #[.int .i64 t581, .int .i64 t582, .int .i64 t583] 23 (0, 0)) (by (with_reducible repeat first | apply bN_ | apply bD_ | apply bA_); exact BK585.out) NB585_579.out (by simp))
                        have n4_ := a0_ (hb)
                        have n5_ := a0_ (hi)
                        clear BK514
                        clear BK531
                        clear HI525
                        clear BK585
                        clear HB
                        clear HI579
                        have BK514 := n0_
                        have BK531 := n1_
                        have HI525 := n2_
                        have BK585 := n3_
                        have HB := n4_
                        have HI579 := n5_
                        clear n0_ n1_ n2_ n3_ n4_ n5_
                        (try clear hb)
                        (try clear hb2)
                        (try clear hk)
                        (try clear hi)
                        refine hK.out _ _ ⟨(bC_ BK531.out 0).trans rfl, (bC_ BK531.out 1).trans rfl, (bC_ BK531.out 2).trans rfl⟩ (fun hHeld => ?_)
                        clear hK K
                        refine norm_ (a' := ?_) ?_ ?_
                        rotate_left
                        ·show Act.put _ (some 123) _ = _
                         simp only [Act.put, zA_, zB_, zC_, i64_w, i32_w]
                         rfl
                        refine pure_ (i := 16) (N := some 125) (v := ?_) (a' := ?_) #[true, true, true, true, true, true, true, true, true, true, true, true, true, true, true, true, true, false] rfl rfl (any_of HT_.out (by kernel_rfl)) (fun _ _ _ h => h) (Or.inl ⟨by rfl, ?_⟩) ?_ ?_
                        rotate_left
                        ·intro w'
                         go_simp
                         with_reducible rfl
                        rotate_left
                        ·simp only [Act.put, zA_, zB_, zC_, i64_w, i32_w]
                         rfl
                        refine pure_ (i := 17) (N := some 126) (v := ?_) (a' := ?_) #[true, true, true, true, true, true, true, true, true, true, true, true, true, true, true, true, true, true] rfl rfl (any_of HT_.out (by kernel_rfl)) (fun _ _ _ h => h) (Or.inl ⟨by rfl, ?_⟩) ?_ ?_
                        rotate_left
                        ·intro w'
                         go_simp
                         with_reducible rfl
                        rotate_left
                        ·simp only [Act.put, zA_, zB_, zC_, i64_w, i32_w]
                         rfl
                        refine done_ (done_of HT_.out (by kernel_rfl)) ?_
                        try go_wp2_with (first | ((with_reducible refine gate_callee (f := 24) rfl ?_); refine goesL_ (some 146) rfl rfl Try.func24 (by kernel_rfl) rfl #[.pointer (some ⟨g525, 0, none⟩)] rfl (by (try simp only [List.map_toArray, List.map_cons, List.map_nil]); first | done | rfl) ?_; (with_reducible refine (period_Year_Count.calls g525 t559 t560 t561 t562 t563 t564 t565 t566 t567 t608 t609 t610 t611 t612 t613 t614 t615 t616 t617 w _ ?side1 ?side2 A69.out).mono ?_); (case side1 => repeat (first | (with_reducible first | exact HI525.out | apply sA_ | apply sN_ | apply sD_ | refine sF_ ?_ NB525_514.out _ | refine sF_ ?_ NB525_531.out _ | refine sF_ ?_ NB525_585.out _) | exact HI525.out)); (case side2 => repeat (first | (with_reducible first | exact HB.out | apply lA_ | apply lN_ | apply lD_ | refine lS_ ?_ (sG_ HI525.out) | refine lS_ ?_ (sG_ HI579.out) | refine lS_ ?_ GE514.out | refine lS_ ?_ GE531.out | refine lS_ ?_ GE585.out) | exact HB.out)); rintro e w88 ⟨rfl, hi, hb, hk⟩; refine ⟨_, rfl, ?_⟩; have n0_ := a0_ (KeepBut.blk hk (g' := gb514) (o := .cells #[.int .i64 a1_0, .int .i64 a1_1, .int .i64 a1_2] 23 (0, 0)) (by (with_reducible repeat first | apply bN_ | apply bD_ | apply bA_); exact BK514.out) NB514_525.out (by simp)); have n1_ := a0_ (KeepBut.blk hk (g' := gb531) (o := .cells #[.int .i64 t527, .int .i64 t528, .int .i64 t529] 23 (0, 0)) (by (with_reducible repeat first | apply bN_ | apply bD_ | apply bA_); exact BK531.out) NB531_525.out (by simp)); have n2_ := a0_ (IsS62.keepbut (show IsS62 w _ g579 t599 t600 t601 t602 t603 t604 t605 t606 t607 from by repeat (first | (with_reducible first | exact HI579.out | apply sA_ | apply sN_ | apply sD_ | refine sF_ ?_ NB579_514.out _ | refine sF_ ?_ NB579_531.out _ | refine sF_ ?_ NB579_585.out _) | exact HI579.out)) hk NB579_525.out); have n3_ := a0_ (KeepBut.blk hk (g' := gb585) (o := .cells #[.int .i64 t581, .int .i64 t582, .int .i64 t583] 23 (0, 0)) (by (with_reducible repeat first | apply bN_ | apply bD_ | apply bA_); exact BK585.out) NB585_525.out (by simp)); have n4_ := a0_ (hb); have n5_ := a0_ (hi); clear BK514; clear BK531; clear HI579; clear BK585; clear HB; clear HI525; have BK514 := n0_; have BK531 := n1_; have HI579 := n2_; have BK585 := n3_; have HB := n4_; have HI525 := n5_; clear n0_ n1_ n2_ n3_ n4_ n5_; (try clear hb); (try clear hb2); (try clear hk); (try clear hi)) | (go_at_call 11; (with_reducible refine (period_Nominal.calls a0 t618 _ A72.out).mono ?_); rintro e w' ⟨rfl, ⟨nd, rfl⟩⟩))
                        go_ret
                        exact ⟨by first | rfl | (simp [errW_none, errW_some] <;> rfl) | (simp [*, errW_none, errW_some] <;> rfl), by repeat (first | (with_reducible first | exact HB.out | apply lA_ | apply lN_ | apply lD_ | refine lS_ ?_ (sG_ HI525.out) | refine lS_ ?_ (sG_ HI579.out) | refine lS_ ?_ GE514.out | refine lS_ ?_ GE531.out | refine lS_ ?_ GE585.out) | exact HB.out)⟩
                       ·rw [if_neg c71] at H
                        exact absurd H (by simp)
                      ·rw [if_neg c70] at H
                       exact absurd H (by simp)
                     ·rw [if_neg c68] at H
                      exact absurd H (by simp)
                    ·rw [if_neg c67] at H
                     exact absurd H (by simp)
                   ·rw [if_neg c66] at H
                    exact absurd H (by simp)
                 ·rw [if_neg c62] at H
                  have c62b0 : (t580 == 0) = false := beq_eq_false_iff_ne.mpr c62
                  have c62b1 : (t580 != 0) = true := bne_iff_ne.mpr c62
                  exact absurd H (by simp)
                ·replace c61 := Bool.eq_false_iff.mpr c61
                 subst c61
                 have H1 : (none) = some r := by rw [if_neg (show ¬ (false = true) by decide)] at H; exact H
                 clear H
                 have H := H1
                 clear H1
                 exact absurd H (by simp)
            ·rw [if_neg c48] at H
             have c48b0 : period_Year_Next.made t559 t560 t561 t562 t563 t564 t565 t566 t567 = false := by simpa using c48
             clear c48
             replace H := oB_ H
             obtain ⟨⟨t619, t620, t621, t622, t623, t624, t625, t626, t627, t628⟩, A890, H⟩ := H
             replace H : (if t569 = 0 then (stipendlaw04_PeriodMakes.j4 kj31 a0 (wrap64 (t554 - t555)) t619 (t568 != (wrap64 ((wrap64 (t554 - t555)) - 1))) t620 t621 t622 t623 t624 t625 t626 t627 t628 t527 t528 t529) else (stipendlaw04_PeriodMakes.j4 kj31 a0 (wrap64 (t554 - t555)) t619 true t620 t621 t622 t623 t624 t625 t626 t627 t628 t527 t528 t529)) = some r := H
             have A89 := a0_ A890
             clear A890
             have HC90 := a0_ H
             clear H
             try go_wp2
             have n0_ := a0_ (bD_ BK514.out)
             have n1_ := a0_ (bD_ BK531.out)
             have n2_ := a0_ (sD_ HI525.out)
             have n3_ := a0_ (lD_ HB.out)
             clear BK514
             clear BK531
             clear HI525
             clear HB
             have BK514 := n0_
             have BK531 := n1_
             have HI525 := n2_
             have HB := n3_
             clear n0_ n1_ n2_ n3_
             refine start_ (n := 6) (S := fun w' => w'.cell? ⟨gb531, 0, none⟩ = some (.int .i64 t527) ∧ w'.cell? ⟨gb531, 1, none⟩ = some (.int .i64 t528) ∧ w'.cell? ⟨gb531, 2, none⟩ = some (.int .i64 t529) ∧ w'.cell? ⟨gb514, 0, none⟩ = some (.int .i64 a1_0) ∧ w'.cell? ⟨gb514, 1, none⟩ = some (.int .i64 a1_1) ∧ w'.cell? ⟨gb514, 2, none⟩ = some (.int .i64 a1_2)) (ds := []) #[false, false, false, false, false, false] (by kernel_rfl) rfl rfl ⟨(bC_ BK531.out 0).trans rfl, (bC_ BK531.out 1).trans rfl, (bC_ BK531.out 2).trans rfl, (bC_ BK514.out 0).trans rfl, (bC_ BK514.out 1).trans rfl, (bC_ BK514.out 2).trans rfl⟩ (fun hHeld => ?_)
             generalize wc.drew = w91 at BK514 BK531 HI525 HB hHeld ⊢
             refine take_ (i := 0) (N := some 78) (v := ?_) (a' := ?_) #[true, false, false, false, false, false] rfl rfl (by kernel_rfl) (fun _ _ _ h => h) (Or.inl ⟨by rfl, ?_⟩) hHeld ?_ ?_
             rotate_left
             ·rintro w' ⟨s0, s1, s2, s3, s4, s5⟩
              go_simp
              with_reducible rfl
             rotate_left
             ·simp only [Act.put, zA_, zB_, zC_, i64_w, i32_w]
              rfl
             refine take_ (i := 2) (N := some 80) (v := ?_) (a' := ?_) #[true, false, true, false, false, false] rfl rfl (by kernel_rfl) (fun _ _ _ h => h) (Or.inl ⟨by rfl, ?_⟩) hHeld ?_ ?_
             rotate_left
             ·rintro w' ⟨s0, s1, s2, s3, s4, s5⟩
              go_simp
              with_reducible rfl
             rotate_left
             ·simp only [Act.put, zA_, zB_, zC_, i64_w, i32_w]
              rfl
             refine one_ (i := 1) (N := some 79) #[true, true, true, false, false, false] rfl rfl (by kernel_rfl) (by decide) (fun K hK => ?_)
             refine goes_ Try.func23 (by kernel_rfl) rfl #[.agg #[.int .i64 t527, .int .i64 t528, .int .i64 t529]] (by rfl) rfl rfl (by (try simp only [List.map_toArray, List.map_cons, List.map_nil]); first | done | rfl) ?_
             with_reducible refine (stipendref03_Number.calls kj31 t527 t528 t529 t554 _ A44.out).mono ?_
             rintro e w92 ⟨rfl, hb⟩
             refine ⟨_, rfl, ?_⟩
             have n0_ := a0_ (bB_ (g := gb514) (o := .cells #[.int .i64 a1_0, .int .i64 a1_1, .int .i64 a1_2] 23 (0, 0)) (by (with_reducible repeat first | apply bN_ | apply bD_ | apply bA_); exact BK514.out) hb)
             have n1_ := a0_ (bB_ (g := gb531) (o := .cells #[.int .i64 t527, .int .i64 t528, .int .i64 t529] 23 (0, 0)) (by (with_reducible repeat first | apply bN_ | apply bD_ | apply bA_); exact BK531.out) hb)
             have n2_ := a0_ (IsS62.below (by repeat (first | (with_reducible first | exact HI525.out | apply sA_ | apply sN_ | apply sD_ | refine sF_ ?_ NB525_514.out _ | refine sF_ ?_ NB525_531.out _) | exact HI525.out)) hb)
             have n3_ := a0_ (below_step (by repeat (first | (with_reducible first | exact HB.out | apply lA_ | apply lN_ | apply lD_ | refine lS_ ?_ (sG_ HI525.out) | refine lS_ ?_ GE514.out | refine lS_ ?_ GE531.out) | exact HB.out)) hb)
             clear BK514
             clear BK531
             clear HI525
             clear HB
             have BK514 := n0_
             have BK531 := n1_
             have HI525 := n2_
             have HB := n3_
             clear n0_ n1_ n2_ n3_
             (try clear hb)
             (try clear hb2)
             (try clear hk)
             (try clear hi)
             refine hK.out _ _ ⟨(bC_ BK531.out 0).trans rfl, (bC_ BK531.out 1).trans rfl, (bC_ BK531.out 2).trans rfl, (bC_ BK514.out 0).trans rfl, (bC_ BK514.out 1).trans rfl, (bC_ BK514.out 2).trans rfl⟩ (fun hHeld => ?_)
             clear hK K
             refine norm_ (a' := ?_) ?_ ?_
             rotate_left
             ·show Act.put _ (some 79) _ = _
              simp only [Act.put, zA_, zB_, zC_, i64_w, i32_w]
              rfl
             refine one_ (i := 3) (N := some 81) #[true, true, true, true, false, false] rfl rfl (by kernel_rfl) (by decide) (fun K hK => ?_)
             refine goes_ Try.func23 (by kernel_rfl) rfl #[.agg #[.int .i64 a1_0, .int .i64 a1_1, .int .i64 a1_2]] (by rfl) rfl rfl (by (try simp only [List.map_toArray, List.map_cons, List.map_nil]); first | done | rfl) ?_
             with_reducible refine (stipendref03_Number.calls kj31 a1_0 a1_1 a1_2 t555 _ A45.out).mono ?_
             rintro e w93 ⟨rfl, hb⟩
             refine ⟨_, rfl, ?_⟩
             have n0_ := a0_ (bB_ (g := gb514) (o := .cells #[.int .i64 a1_0, .int .i64 a1_1, .int .i64 a1_2] 23 (0, 0)) (by (with_reducible repeat first | apply bN_ | apply bD_ | apply bA_); exact BK514.out) hb)
             have n1_ := a0_ (bB_ (g := gb531) (o := .cells #[.int .i64 t527, .int .i64 t528, .int .i64 t529] 23 (0, 0)) (by (with_reducible repeat first | apply bN_ | apply bD_ | apply bA_); exact BK531.out) hb)
             have n2_ := a0_ (IsS62.below (by repeat (first | (with_reducible first | exact HI525.out | apply sA_ | apply sN_ | apply sD_ | refine sF_ ?_ NB525_514.out _ | refine sF_ ?_ NB525_531.out _) | exact HI525.out)) hb)
             have n3_ := a0_ (below_step (by repeat (first | (with_reducible first | exact HB.out | apply lA_ | apply lN_ | apply lD_ | refine lS_ ?_ (sG_ HI525.out) | refine lS_ ?_ GE514.out | refine lS_ ?_ GE531.out) | exact HB.out)) hb)
             clear BK514
             clear BK531
             clear HI525
             clear HB
             have BK514 := n0_
             have BK531 := n1_
             have HI525 := n2_
             have HB := n3_
             clear n0_ n1_ n2_ n3_
             (try clear hb)
             (try clear hb2)
             (try clear hk)
             (try clear hi)
             refine hK.out _ _ ⟨(bC_ BK531.out 0).trans rfl, (bC_ BK531.out 1).trans rfl, (bC_ BK531.out 2).trans rfl, (bC_ BK514.out 0).trans rfl, (bC_ BK514.out 1).trans rfl, (bC_ BK514.out 2).trans rfl⟩ (fun hHeld => ?_)
             clear hK K
             refine norm_ (a' := ?_) ?_ ?_
             rotate_left
             ·show Act.put _ (some 81) _ = _
              simp only [Act.put, zA_, zB_, zC_, i64_w, i32_w]
              rfl
             refine pure_ (i := 4) (N := some 82) (v := ?_) (a' := ?_) #[true, true, true, true, true, false] rfl rfl (by kernel_rfl) (fun _ _ _ h => h) (Or.inl ⟨by rfl, ?_⟩) ?_ ?_
             rotate_left
             ·intro w'
              go_simp
              with_reducible rfl
             rotate_left
             ·simp only [Act.put, zA_, zB_, zC_, i64_w, i32_w]
              rfl
             refine pure_ (i := 5) (N := some 9) (v := ?_) (a' := ?_) #[true, true, true, true, true, true] rfl rfl (by kernel_rfl) (fun _ _ _ h => h) (Or.inl ⟨by rfl, ?_⟩) ?_ ?_
             rotate_left
             ·intro w'
              go_simp
              with_reducible rfl
             rotate_left
             ·simp only [Act.put, zA_, zB_, zC_, i64_w, i32_w]
              rfl
             refine done_ (by kernel_rfl) ?_
             try go_wp2
             have n0_ := a0_ (bD_ BK514.out)
             have n1_ := a0_ (bD_ BK531.out)
             have n2_ := a0_ (sD_ HI525.out)
             have n3_ := a0_ (lD_ HB.out)
             clear BK514
             clear BK531
             clear HI525
             clear HB
             have BK514 := n0_
             have BK531 := n1_
             have HI525 := n2_
             have HB := n3_
             clear n0_ n1_ n2_ n3_
             refine start_ (n := 9) (S := fun w' => w'.cell? ⟨gb514, 0, none⟩ = some (.int .i64 a1_0) ∧ w'.cell? ⟨gb514, 1, none⟩ = some (.int .i64 a1_1) ∧ w'.cell? ⟨gb514, 2, none⟩ = some (.int .i64 a1_2)) (ds := []) #[false, false, false, false, false, false, false, false, false] (by kernel_rfl) rfl rfl ⟨(bC_ BK514.out 0).trans rfl, (bC_ BK514.out 1).trans rfl, (bC_ BK514.out 2).trans rfl⟩ (fun hHeld => ?_); refine with_tabW stipendlaw04_PeriodMakes.tab12 stipendlaw04_PeriodMakes.bits12 (fun HT_ HW_ => ?_)
             generalize w93.drew = w94 at BK514 BK531 HI525 HB hHeld ⊢
             refine pure_ (i := 1) (N := some 85) (v := ?_) (a' := ?_) #[false, true, false, false, false, false, false, false, false] rfl rfl (any_of HT_.out (by kernel_rfl)) (fun _ _ _ h => h) (Or.inl ⟨by rfl, ?_⟩) ?_ ?_
             rotate_left
             ·intro w'
              go_simp
              with_reducible rfl
             rotate_left
             ·simp only [Act.put, zA_, zB_, zC_, i64_w, i32_w]
              rfl
             refine take_ (i := 0) (N := some 84) (v := ?_) (a' := ?_) #[true, true, false, false, false, false, false, false, false] rfl rfl (take_ofW HT_.out HW_.out (by kernel_rfl)) (fun _ _ _ h => h) (Or.inl ⟨by rfl, ?_⟩) hHeld ?_ ?_
             rotate_left
             ·rintro w' ⟨s0, s1, s2⟩
              go_simp
              with_reducible rfl
             rotate_left
             ·simp only [Act.put, zA_, zB_, zC_, i64_w, i32_w]
              rfl
             refine one_ (i := 2) (N := some 86) #[true, true, true, false, false, false, false, false, false] rfl rfl (one_of HT_.out (by kernel_rfl)) (by decide) (fun K hK => ?_)
             refine goes_ Try.func18 (by kernel_rfl) rfl #[.pointer (some ⟨g525, 0, none⟩)] (by rfl) rfl rfl (by (try simp only [List.map_toArray, List.map_cons, List.map_nil]); first | done | rfl) ?_
             with_reducible refine (period_Year_End.calls g525 x526000_31 x526001_31 x526002_31 x526003_31 x526004_31 x526005_31 x526006_31 x526007_31 x526008_31 t556 t557 t558 t559 t560 t561 t562 t563 t564 t565 t566 t567 w _ ?side1 ?side2 A46.out).mono ?_
             (case side1 => repeat (first | (with_reducible first | exact HI525.out | apply sA_ | apply sN_ | apply sD_ | refine sF_ ?_ NB525_514.out _ | refine sF_ ?_ NB525_531.out _) | exact HI525.out))
             (case side2 => repeat (first | (with_reducible first | exact HB.out | apply lA_ | apply lN_ | apply lD_ | refine lS_ ?_ (sG_ HI525.out) | refine lS_ ?_ GE514.out | refine lS_ ?_ GE531.out) | exact HB.out))
             rintro e w95 ⟨rfl, hi, hb, hk⟩
             refine ⟨_, rfl, ?_⟩
             have n0_ := a0_ (KeepBut.blk hk (g' := gb514) (o := .cells #[.int .i64 a1_0, .int .i64 a1_1, .int .i64 a1_2] 23 (0, 0)) (by (with_reducible repeat first | apply bN_ | apply bD_ | apply bA_); exact BK514.out) NB514_525.out (by simp))
             have n1_ := a0_ (KeepBut.blk hk (g' := gb531) (o := .cells #[.int .i64 t527, .int .i64 t528, .int .i64 t529] 23 (0, 0)) (by (with_reducible repeat first | apply bN_ | apply bD_ | apply bA_); exact BK531.out) NB531_525.out (by simp))
             have n2_ := a0_ (hb)
             have n3_ := a0_ (hi)
             clear BK514
             clear BK531
             clear HB
             clear HI525
             have BK514 := n0_
             have BK531 := n1_
             have HB := n2_
             have HI525 := n3_
             clear n0_ n1_ n2_ n3_
             (try clear hb)
             (try clear hb2)
             (try clear hk)
             (try clear hi)
             refine hK.out _ _ ⟨(bC_ BK514.out 0).trans rfl, (bC_ BK514.out 1).trans rfl, (bC_ BK514.out 2).trans rfl⟩ (fun hHeld => ?_)
             clear hK K
             refine norm_ (a' := ?_) ?_ ?_
             rotate_left
             ·show Act.put _ (some 86) _ = _
              simp only [Act.put, zA_, zB_, zC_, i64_w, i32_w]
              rfl
             refine one_ (i := 3) (N := some 87) #[true, true, true, true, false, false, false, false, false] rfl rfl (one_of HT_.out (by kernel_rfl)) (by decide) (fun K hK => ?_)
             refine goes_ Try.func16 (by kernel_rfl) rfl #[.agg #[.int .i64 a1_0, .int .i64 a1_1, .int .i64 a1_2], .agg #[.int .i64 t556, .int .i64 t557, .int .i64 t558]] (by rfl) rfl rfl (by (try simp only [List.map_toArray, List.map_cons, List.map_nil]); first | done | rfl) ?_
             with_reducible refine (date_Between.calls kj31 a1_0 a1_1 a1_2 t556 t557 t558 t568 t569 _ A47.out).mono ?_
             rintro e w96 ⟨rfl, hb⟩
             refine ⟨_, rfl, ?_⟩
             have n0_ := a0_ (bB_ (g := gb514) (o := .cells #[.int .i64 a1_0, .int .i64 a1_1, .int .i64 a1_2] 23 (0, 0)) (by (with_reducible repeat first | apply bN_ | apply bD_ | apply bA_); exact BK514.out) hb)
             have n1_ := a0_ (bB_ (g := gb531) (o := .cells #[.int .i64 t527, .int .i64 t528, .int .i64 t529] 23 (0, 0)) (by (with_reducible repeat first | apply bN_ | apply bD_ | apply bA_); exact BK531.out) hb)
             have n2_ := a0_ (IsS62.below (by repeat (first | (with_reducible first | exact HI525.out | apply sA_ | apply sN_ | apply sD_ | refine sF_ ?_ NB525_514.out _ | refine sF_ ?_ NB525_531.out _) | exact HI525.out)) hb)
             have n3_ := a0_ (below_step (by repeat (first | (with_reducible first | exact HB.out | apply lA_ | apply lN_ | apply lD_ | refine lS_ ?_ (sG_ HI525.out) | refine lS_ ?_ GE514.out | refine lS_ ?_ GE531.out) | exact HB.out)) hb)
             clear BK514
             clear BK531
             clear HI525
             clear HB
             have BK514 := n0_
             have BK531 := n1_
             have HI525 := n2_
             have HB := n3_
             clear n0_ n1_ n2_ n3_
             (try clear hb)
             (try clear hb2)
             (try clear hk)
             (try clear hi)
             refine hK.out _ _ ⟨(bC_ BK514.out 0).trans rfl, (bC_ BK514.out 1).trans rfl, (bC_ BK514.out 2).trans rfl⟩ (fun hHeld => ?_)
             clear hK K
             refine norm_ (a' := ?_) ?_ ?_
             rotate_left
             ·show Act.put _ (some 87) _ = _
              simp only [Act.put, zA_, zB_, zC_, i64_w, i32_w]
              rfl
             refine pure_ (i := 4) (N := some 83) (v := ?_) (a' := ?_) #[true, true, true, true, true, false, false, false, false] rfl rfl (any_of HT_.out (by kernel_rfl)) (fun _ _ _ h => h) (Or.inl ⟨by rfl, ?_⟩) ?_ ?_
             rotate_left
             ·intro w'
              go_simp
              with_reducible rfl
             rotate_left
             ·simp only [Act.put, zA_, zB_, zC_, i64_w, i32_w]
              rfl
             refine pure_ (i := 5) (N := some 88) (v := ?_) (a' := ?_) #[true, true, true, true, true, true, false, false, false] rfl rfl (any_of HT_.out (by kernel_rfl)) (fun _ _ _ h => h) (Or.inl ⟨by rfl, ?_⟩) ?_ ?_
             rotate_left
             ·intro w'
              go_simp
              with_reducible rfl
             rotate_left
             ·simp only [Act.put, zA_, zB_, zC_, i64_w, i32_w]
              rfl
             refine pure_ (i := 6) (N := some 89) (v := ?_) (a' := ?_) #[true, true, true, true, true, true, true, false, false] rfl rfl (any_of HT_.out (by kernel_rfl)) (fun _ _ _ h => h) (Or.inl ⟨by rfl, ?_⟩) ?_ ?_
             rotate_left
             ·intro w'
              go_simp
              with_reducible rfl
             rotate_left
             ·simp only [Act.put, zA_, zB_, zC_, i64_w, i32_w]
              rfl
             refine pure_ (i := 7) (N := some 10) (v := ?_) (a' := ?_) #[true, true, true, true, true, true, true, true, false] rfl rfl (any_of HT_.out (by kernel_rfl)) (fun _ _ _ h => h) (Or.inl ⟨by rfl, ?_⟩) ?_ ?_
             rotate_left
             ·intro w'
              go_simp
              with_reducible rfl
             rotate_left
             ·simp only [Act.put, zA_, zB_, zC_, i64_w, i32_w]
              rfl
             refine pure_ (i := 8) (N := some 11) (v := ?_) (a' := ?_) #[true, true, true, true, true, true, true, true, true] rfl rfl (any_of HT_.out (by kernel_rfl)) (fun _ _ _ h => h) (Or.inl ⟨by rfl, ?_⟩) ?_ ?_
             rotate_left
             ·intro w'
              go_simp
              with_reducible rfl
             rotate_left
             ·simp only [Act.put, zA_, zB_, zC_, i64_w, i32_w]
              rfl
             refine done_ (done_of HT_.out (by kernel_rfl)) ?_
             go_upto_region 14 with (first | ((with_reducible refine gate_callee (f := 19) rfl ?_); refine goesL_ (some 92) rfl rfl Try.func19 (by kernel_rfl) rfl #[.pointer (some ⟨g525, 0, none⟩)] rfl (by (try simp only [List.map_toArray, List.map_cons, List.map_nil]); first | done | rfl) ?_; (with_reducible refine (period_Year_Next_B.calls kj31 g525 t559 t560 t561 t562 t563 t564 t565 t566 t567 t619 t620 t621 t622 t623 t624 t625 t626 t627 t628 w _ ?side1 ?side2 A89.out).mono ?_); (case side1 => repeat (first | (with_reducible first | exact HI525.out | apply sA_ | apply sN_ | apply sD_ | refine sF_ ?_ NB525_514.out _ | refine sF_ ?_ NB525_531.out _) | exact HI525.out)); (case side2 => repeat (first | (with_reducible first | exact HB.out | apply lA_ | apply lN_ | apply lD_ | refine lS_ ?_ (sG_ HI525.out) | refine lS_ ?_ GE514.out | refine lS_ ?_ GE531.out) | exact HB.out)); rintro e w97 ⟨rfl, hi, hb, hk⟩; refine ⟨_, rfl, ?_⟩; have n0_ := a0_ (KeepBut.blk hk (g' := gb514) (o := .cells #[.int .i64 a1_0, .int .i64 a1_1, .int .i64 a1_2] 23 (0, 0)) (by (with_reducible repeat first | apply bN_ | apply bD_ | apply bA_); exact BK514.out) NB514_525.out (by simp)); have n1_ := a0_ (KeepBut.blk hk (g' := gb531) (o := .cells #[.int .i64 t527, .int .i64 t528, .int .i64 t529] 23 (0, 0)) (by (with_reducible repeat first | apply bN_ | apply bD_ | apply bA_); exact BK531.out) NB531_525.out (by simp)); have n2_ := a0_ (hb); have n3_ := a0_ (hi); clear BK514; clear BK531; clear HB; clear HI525; have BK514 := n0_; have BK531 := n1_; have HB := n2_; have HI525 := n3_; clear n0_ n1_ n2_ n3_; (try clear hb); (try clear hb2); (try clear hk); (try clear hi)))
             (try simp only [Act.put, zA_, zB_, zC_])
             go_cut [102] (fun v102 wc => ∃ (kq : Nat) (x102_89 : Bool), v102 = .bool x102_89 ∧ Aside0 (stipendlaw04_PeriodMakes.j4 kq a0 (wrap64 (t554 - t555)) t619 x102_89 t620 t621 t622 t623 t624 t625 t626 t627 t628 t527 t528 t529 = some r) ∧ Aside0 (kq ≤ kj31) ∧ Aside0 (wc.heap[gb514]? = some (.cells #[.int .i64 a1_0, .int .i64 a1_1, .int .i64 a1_2] 23 (0, 0))) ∧ Aside0 (wc.heap[gb531]? = some (.cells #[.int .i64 t527, .int .i64 t528, .int .i64 t529] 23 (0, 0))) ∧ Aside0 (IsS62 w wc g525 t620 t621 t622 t623 t624 t625 t626 t627 t628) ∧ Aside0 (Below w.heap.size w wc))
             case first =>
              have H := HC90.out
              clear HC90
              by_cases c98 : t569 = 0
              ·rw [if_pos c98] at H
               have c98b0 : (t569 == 0) = true := beq_iff_eq.mpr c98
               have c98b1 : (t569 != 0) = false := bne_eq_false_iff_eq.mpr c98
               clear c98
               (first | rw [c98b0] | (simp only [i64_w, i32_w]; rw [c98b0]) | skip)
               have H' := a0_ H
               clear H
               go_wp2
               go_meet
               case rel => exact ⟨_, ((t568 != (wrap64 ((wrap64 (t554 - t555)) - 1)))), (by first | rfl | (simp; done) | (simp [*]; done)), H', ⟨by have := HJ6.out; have := HJ14.out; have := HJ31.out; first | omega | exact Nat.le_refl _⟩, ⟨by (with_reducible repeat first | apply bN_ | apply bD_ | apply bA_); exact BK514.out⟩, ⟨by (with_reducible repeat first | apply bN_ | apply bD_ | apply bA_); exact BK531.out⟩, ⟨by repeat (first | (with_reducible first | exact HI525.out | apply sA_ | apply sN_ | apply sD_ | refine sF_ ?_ NB525_514.out _ | refine sF_ ?_ NB525_531.out _) | exact HI525.out)⟩, ⟨by repeat (first | (with_reducible first | exact HB.out | apply lA_ | apply lN_ | apply lD_ | refine lS_ ?_ (sG_ HI525.out) | refine lS_ ?_ GE514.out | refine lS_ ?_ GE531.out) | exact HB.out)⟩⟩
              ·rw [if_neg c98] at H
               have c98b0 : (t569 == 0) = false := beq_eq_false_iff_ne.mpr c98
               have c98b1 : (t569 != 0) = true := bne_iff_ne.mpr c98
               (first | rw [c98b0] | (simp only [i64_w, i32_w]; rw [c98b0]) | skip)
               have H' := a0_ H
               clear H
               go_wp2
               go_meet
               case rel => exact ⟨_, (true), (by first | rfl | (simp; done) | (simp [*]; done)), H', ⟨by have := HJ6.out; have := HJ14.out; have := HJ31.out; first | omega | exact Nat.le_refl _⟩, ⟨by (with_reducible repeat first | apply bN_ | apply bD_ | apply bA_); exact BK514.out⟩, ⟨by (with_reducible repeat first | apply bN_ | apply bD_ | apply bA_); exact BK531.out⟩, ⟨by repeat (first | (with_reducible first | exact HI525.out | apply sA_ | apply sN_ | apply sD_ | refine sF_ ?_ NB525_514.out _ | refine sF_ ?_ NB525_531.out _) | exact HI525.out)⟩, ⟨by repeat (first | (with_reducible first | exact HB.out | apply lA_ | apply lN_ | apply lD_ | refine lS_ ?_ (sG_ HI525.out) | refine lS_ ?_ GE514.out | refine lS_ ?_ GE531.out) | exact HB.out)⟩⟩
             case rest =>
              clear HC90
              try clear p2
              try clear c4
              try clear c23
              try clear c24
              try clear c48
              try clear c48b0
              try clear c61
              try clear c62
              try clear c62b0
              try clear c62b1
              try clear c64
              try clear c64b0
              try clear c66
              try clear c66b0
              try clear c66b1
              try clear c67
              try clear c67b0
              try clear c68
              try clear c68b0
              try clear c70
              try clear c70b0
              try clear c70b1
              try clear c71
              try clear c71b0
              try clear c98
              try clear c98b0
              try clear c98b1
              try clear hcz76_0
              try clear hcz76_1
              try clear hcz76_2
              try clear hcz83_0
              try clear hcz83_1
              try clear hcz83_2
              try clear hfz76_0
              try clear hfz76_1
              try clear hfz76_2
              try clear hfz83_0
              try clear hfz83_1
              try clear hfz83_2
              obtain ⟨kq, x102_89, rfl, HA, HJ89, BK514, BK531, HI525, HB⟩ := hcut
              cases kq with
              | zero => exact absurd HA.out (by simp [stipendlaw04_PeriodMakes.j4])
              | succ kj89 =>
               have H := HA.out
               clear HA
               simp only [stipendlaw04_PeriodMakes.j4] at H
               by_cases c99 : x102_89 = true
               ·subst c99
                have H1 : (none) = some r := by rw [if_pos rfl] at H; exact H
                clear H
                have H := H1
                clear H1
                exact absurd H (by simp)
               ·replace c99 := Bool.eq_false_iff.mpr c99
                subst c99
                have H1 : ((stipendref03_Months.f kj89 t527 t528 t529 12).bind fun bt629 => (if bt629.2.2.2 = true then (none) else (if t619 = 30 then (if 0 ≤ a0 then (if a0 < 5 then ((period_Year_Count.f t620 t621 t622 t623 t624 t625 t626 t627 t628).bind fun bt634 => (if bt634.1 = (rd ([0, wrap64 (Int.tdiv (wrap64 ((wrap64 (t554 - t555)) + 6)) 7), wrap64 (Int.tdiv (wrap64 ((wrap64 (t554 - t555)) + 13)) 14), wrap64 (Int.tdiv (wrap64 ((wrap64 (t554 - t555)) + 27)) 28), 12] : List Int) a0) then (if (rd ([0, wrap64 (Int.tdiv (wrap64 ((wrap64 (t554 - t555)) + 6)) 7), wrap64 (Int.tdiv (wrap64 ((wrap64 (t554 - t555)) + 13)) 14), wrap64 (Int.tdiv (wrap64 ((wrap64 (t554 - t555)) + 27)) 28), 12] : List Int) a0) ≤ 53 then ((period_Nominal.f a0).bind fun t644 => (some (decide ((rd ([0, wrap64 (Int.tdiv (wrap64 ((wrap64 (t554 - t555)) + 6)) 7), wrap64 (Int.tdiv (wrap64 ((wrap64 (t554 - t555)) + 13)) 14), wrap64 (Int.tdiv (wrap64 ((wrap64 (t554 - t555)) + 27)) 28), 12] : List Int) a0) ≥ t644)))) else (none)) else (none))) else (none)) else (none)) else (none)))) = some r := by rw [if_neg (show ¬ (false = true) by decide)] at H; exact H
                clear H
                have H := H1
                clear H1
                replace H := oB_ H
                obtain ⟨⟨t629, t630, t631, t632⟩, A1000, H⟩ := H
                replace H : (if t632 = true then (none) else (if t619 = 30 then (if 0 ≤ a0 then (if a0 < 5 then ((period_Year_Count.f t620 t621 t622 t623 t624 t625 t626 t627 t628).bind fun bt634 => (if bt634.1 = (rd ([0, wrap64 (Int.tdiv (wrap64 ((wrap64 (t554 - t555)) + 6)) 7), wrap64 (Int.tdiv (wrap64 ((wrap64 (t554 - t555)) + 13)) 14), wrap64 (Int.tdiv (wrap64 ((wrap64 (t554 - t555)) + 27)) 28), 12] : List Int) a0) then (if (rd ([0, wrap64 (Int.tdiv (wrap64 ((wrap64 (t554 - t555)) + 6)) 7), wrap64 (Int.tdiv (wrap64 ((wrap64 (t554 - t555)) + 13)) 14), wrap64 (Int.tdiv (wrap64 ((wrap64 (t554 - t555)) + 27)) 28), 12] : List Int) a0) ≤ 53 then ((period_Nominal.f a0).bind fun t644 => (some (decide ((rd ([0, wrap64 (Int.tdiv (wrap64 ((wrap64 (t554 - t555)) + 6)) 7), wrap64 (Int.tdiv (wrap64 ((wrap64 (t554 - t555)) + 13)) 14), wrap64 (Int.tdiv (wrap64 ((wrap64 (t554 - t555)) + 27)) 28), 12] : List Int) a0) ≥ t644)))) else (none)) else (none))) else (none)) else (none)) else (none))) = some r := H
                have A100 := a0_ A1000
                clear A1000
                by_cases c101 : t632 = true
                ·subst c101
                 have H1 : (none) = some r := by rw [if_pos rfl] at H; exact H
                 clear H
                 have H := H1
                 clear H1
                 exact absurd H (by simp)
                ·replace c101 := Bool.eq_false_iff.mpr c101
                 subst c101
                 have H1 : (if t619 = 30 then (if 0 ≤ a0 then (if a0 < 5 then ((period_Year_Count.f t620 t621 t622 t623 t624 t625 t626 t627 t628).bind fun bt634 => (if bt634.1 = (rd ([0, wrap64 (Int.tdiv (wrap64 ((wrap64 (t554 - t555)) + 6)) 7), wrap64 (Int.tdiv (wrap64 ((wrap64 (t554 - t555)) + 13)) 14), wrap64 (Int.tdiv (wrap64 ((wrap64 (t554 - t555)) + 27)) 28), 12] : List Int) a0) then (if (rd ([0, wrap64 (Int.tdiv (wrap64 ((wrap64 (t554 - t555)) + 6)) 7), wrap64 (Int.tdiv (wrap64 ((wrap64 (t554 - t555)) + 13)) 14), wrap64 (Int.tdiv (wrap64 ((wrap64 (t554 - t555)) + 27)) 28), 12] : List Int) a0) ≤ 53 then ((period_Nominal.f a0).bind fun t644 => (some (decide ((rd ([0, wrap64 (Int.tdiv (wrap64 ((wrap64 (t554 - t555)) + 6)) 7), wrap64 (Int.tdiv (wrap64 ((wrap64 (t554 - t555)) + 13)) 14), wrap64 (Int.tdiv (wrap64 ((wrap64 (t554 - t555)) + 27)) 28), 12] : List Int) a0) ≥ t644)))) else (none)) else (none))) else (none)) else (none)) else (none)) = some r := by rw [if_neg (show ¬ (false = true) by decide)] at H; exact H
                 clear H
                 have H := H1
                 clear H1
                 by_cases c102 : t619 = 30
                 ·rw [if_pos c102] at H
                  have c102b0 : (t619 == 30) = true := beq_iff_eq.mpr c102
                  have c102b1 : (t619 != 30) = false := bne_eq_false_iff_eq.mpr c102
                  clear c102
                  by_cases c103 : 0 ≤ a0
                  ·rw [if_pos c103] at H
                   have c103b0 : decide (0 ≤ a0) = true := decide_eq_true c103
                   clear c103
                   by_cases c104 : a0 < 5
                   ·rw [if_pos c104] at H
                    have c104b0 : decide (a0 < 5) = true := decide_eq_true c104
                    try have hix44_ := fun (p0 p1 p2 p3 p4 : Int) (W : World) => ints44_4_at (i := a0) (by first | omega | exact of_decide_eq_true (by assumption)) (of_decide_eq_true c104b0) p0 p1 p2 p3 p4 W
                    clear c104
                    replace H := oB_ H
                    obtain ⟨⟨t634, t635, t636, t637, t638, t639, t640, t641, t642, t643⟩, A1050, H⟩ := H
                    replace H : (if t634 = (rd ([0, wrap64 (Int.tdiv (wrap64 ((wrap64 (t554 - t555)) + 6)) 7), wrap64 (Int.tdiv (wrap64 ((wrap64 (t554 - t555)) + 13)) 14), wrap64 (Int.tdiv (wrap64 ((wrap64 (t554 - t555)) + 27)) 28), 12] : List Int) a0) then (if (rd ([0, wrap64 (Int.tdiv (wrap64 ((wrap64 (t554 - t555)) + 6)) 7), wrap64 (Int.tdiv (wrap64 ((wrap64 (t554 - t555)) + 13)) 14), wrap64 (Int.tdiv (wrap64 ((wrap64 (t554 - t555)) + 27)) 28), 12] : List Int) a0) ≤ 53 then ((period_Nominal.f a0).bind fun t644 => (some (decide ((rd ([0, wrap64 (Int.tdiv (wrap64 ((wrap64 (t554 - t555)) + 6)) 7), wrap64 (Int.tdiv (wrap64 ((wrap64 (t554 - t555)) + 13)) 14), wrap64 (Int.tdiv (wrap64 ((wrap64 (t554 - t555)) + 27)) 28), 12] : List Int) a0) ≥ t644)))) else (none)) else (none)) = some r := H
                    have A105 := a0_ A1050
                    clear A1050
                    by_cases c106 : t634 = (rd ([0, wrap64 (Int.tdiv (wrap64 ((wrap64 (t554 - t555)) + 6)) 7), wrap64 (Int.tdiv (wrap64 ((wrap64 (t554 - t555)) + 13)) 14), wrap64 (Int.tdiv (wrap64 ((wrap64 (t554 - t555)) + 27)) 28), 12] : List Int) a0)
                    ·rw [if_pos c106] at H
                     have c106b0 : (t634 == (rd ([0, wrap64 (Int.tdiv (wrap64 ((wrap64 (t554 - t555)) + 6)) 7), wrap64 (Int.tdiv (wrap64 ((wrap64 (t554 - t555)) + 13)) 14), wrap64 (Int.tdiv (wrap64 ((wrap64 (t554 - t555)) + 27)) 28), 12] : List Int) a0)) = true := beq_iff_eq.mpr c106
                     have c106b1 : (t634 != (rd ([0, wrap64 (Int.tdiv (wrap64 ((wrap64 (t554 - t555)) + 6)) 7), wrap64 (Int.tdiv (wrap64 ((wrap64 (t554 - t555)) + 13)) 14), wrap64 (Int.tdiv (wrap64 ((wrap64 (t554 - t555)) + 27)) 28), 12] : List Int) a0)) = false := bne_eq_false_iff_eq.mpr c106
                     clear c106
                     by_cases c107 : (rd ([0, wrap64 (Int.tdiv (wrap64 ((wrap64 (t554 - t555)) + 6)) 7), wrap64 (Int.tdiv (wrap64 ((wrap64 (t554 - t555)) + 13)) 14), wrap64 (Int.tdiv (wrap64 ((wrap64 (t554 - t555)) + 27)) 28), 12] : List Int) a0) ≤ 53
                     ·rw [if_pos c107] at H
                      have c107b0 : decide ((rd ([0, wrap64 (Int.tdiv (wrap64 ((wrap64 (t554 - t555)) + 6)) 7), wrap64 (Int.tdiv (wrap64 ((wrap64 (t554 - t555)) + 13)) 14), wrap64 (Int.tdiv (wrap64 ((wrap64 (t554 - t555)) + 27)) 28), 12] : List Int) a0) ≤ 53) = true := decide_eq_true c107
                      clear c107
                      replace H := oB_ H
                      obtain ⟨t644, A1080, H⟩ := H
                      replace H : (some (decide ((rd ([0, wrap64 (Int.tdiv (wrap64 ((wrap64 (t554 - t555)) + 6)) 7), wrap64 (Int.tdiv (wrap64 ((wrap64 (t554 - t555)) + 13)) 14), wrap64 (Int.tdiv (wrap64 ((wrap64 (t554 - t555)) + 27)) 28), 12] : List Int) a0) ≥ t644))) = some r := H
                      have A108 := a0_ A1080
                      clear A1080
                      obtain rfl := Option.some.inj H
                      have hnb109 := NB531_514.out
                      have hnc109 := NB514_531.out
                      have hnb110 := NB531_525.out
                      have hnc110 := NB525_531.out
                      have hcz111_0 : wc.cell? ⟨gb531, 0, none⟩ = some (.int .i64 t527) := (bC_ BK531.out 0).trans rfl
                      have hcz111_1 : wc.cell? ⟨gb531, 1, none⟩ = some (.int .i64 t528) := (bC_ BK531.out 1).trans rfl
                      have hcz111_2 : wc.cell? ⟨gb531, 2, none⟩ = some (.int .i64 t529) := (bC_ BK531.out 2).trans rfl
                      have hfz111_0 := bF_ BK531.out 0
                      have hfz111_1 := bF_ BK531.out 1
                      have hfz111_2 := bF_ BK531.out 2
                      go_wp2_with (first | ((with_reducible refine gate_callee (f := 21) rfl ?_); refine goesL_ (some 105) rfl rfl Try.func21 (by kernel_rfl) rfl #[.agg #[.int .i64 t527, .int .i64 t528, .int .i64 t529], .int .i64 12] rfl (by (try simp only [List.map_toArray, List.map_cons, List.map_nil]); first | done | rfl) ?_; (with_reducible refine (stipendref03_Months.calls kj89 t527 t528 t529 12 t629 t630 t631 false _ A100.out).mono ?_); rintro e w112 ⟨rfl, hb⟩; refine ⟨_, rfl, ?_⟩; have n0_ := a0_ (bB_ (g := gb514) (o := .cells #[.int .i64 a1_0, .int .i64 a1_1, .int .i64 a1_2] 23 (0, 0)) (by (with_reducible repeat first | apply bN_ | apply bD_ | apply bA_); exact BK514.out) hb); have n1_ := a0_ (bB_ (g := gb531) (o := .cells #[.int .i64 t527, .int .i64 t528, .int .i64 t529] 23 (0, 0)) (by (with_reducible repeat first | apply bN_ | apply bD_ | apply bA_); exact BK531.out) hb); have n2_ := a0_ (IsS62.below (by repeat (first | (with_reducible first | exact HI525.out | apply sA_ | apply sN_ | apply sD_ | refine sF_ ?_ NB525_514.out _ | refine sF_ ?_ NB525_531.out _) | exact HI525.out)) hb); have n3_ := a0_ (below_step (by repeat (first | (with_reducible first | exact HB.out | apply lA_ | apply lN_ | apply lD_ | refine lS_ ?_ (sG_ HI525.out) | refine lS_ ?_ GE514.out | refine lS_ ?_ GE531.out) | exact HB.out)) hb); clear BK514; clear BK531; clear HI525; clear HB; have BK514 := n0_; have BK531 := n1_; have HI525 := n2_; have HB := n3_; clear n0_ n1_ n2_ n3_; (try clear hb); (try clear hb2); (try clear hk); (try clear hi)) | ((with_reducible refine gate_dst (N := 14) rfl ?_); refine box_event ?hg (N := 14) ?hd (cs := #[.int .i64 0, .int .i64 0, .int .i64 0]) (t := 23) ?hr ?_; (case hd => rfl); (case hg => rfl); (case hr => first | (go_simp; done) | (go_simp; rfl)); intro gb633 hg w113 hbox hb; have n0_ := a0_ (bB_ (g := gb514) (o := .cells #[.int .i64 a1_0, .int .i64 a1_1, .int .i64 a1_2] 23 (0, 0)) (by (with_reducible repeat first | apply bN_ | apply bD_ | apply bA_); exact BK514.out) hb); have n1_ := a0_ (bB_ (g := gb531) (o := .cells #[.int .i64 t527, .int .i64 t528, .int .i64 t529] 23 (0, 0)) (by (with_reducible repeat first | apply bN_ | apply bD_ | apply bA_); exact BK531.out) hb); have n2_ := a0_ (IsS62.below (by repeat (first | (with_reducible first | exact HI525.out | apply sA_ | apply sN_ | apply sD_ | refine sF_ ?_ NB525_514.out _ | refine sF_ ?_ NB525_531.out _) | exact HI525.out)) hb); have n3_ := a0_ (below_step (by repeat (first | (with_reducible first | exact HB.out | apply lA_ | apply lN_ | apply lD_ | refine lS_ ?_ (sG_ HI525.out) | refine lS_ ?_ GE514.out | refine lS_ ?_ GE531.out) | exact HB.out)) hb); have n4_ := a0_ (hbox); have n5_ := a0_ ((by rw [hg]; exact (below_size (by repeat (first | (with_reducible first | exact HB.out | apply lA_ | apply lN_ | apply lD_ | refine lS_ ?_ (sG_ HI525.out) | refine lS_ ?_ GE514.out | refine lS_ ?_ GE531.out) | exact HB.out))) : w.heap.size ≤ gb633)); have n6_ := a0_ ((by rw [hg]; exact (below_size (by repeat (first | (with_reducible first | exact HB.out | apply lA_ | apply lN_ | apply lD_ | refine lS_ ?_ (sG_ HI525.out) | refine lS_ ?_ GE514.out | refine lS_ ?_ GE531.out) | exact HB.out))) : w.heap.size ≤ gb633)); have n7_ := a0_ ((by rw [hg]; exact Nat.ne_of_lt (blk_lt (g := gb514) (o := .cells #[.int .i64 a1_0, .int .i64 a1_1, .int .i64 a1_2] 23 (0, 0)) (by (with_reducible repeat first | apply bN_ | apply bD_ | apply bA_); exact BK514.out)) : gb514 ≠ gb633)); have n8_ := a0_ ((by rw [hg]; exact Nat.ne_of_gt (blk_lt (g := gb514) (o := .cells #[.int .i64 a1_0, .int .i64 a1_1, .int .i64 a1_2] 23 (0, 0)) (by (with_reducible repeat first | apply bN_ | apply bD_ | apply bA_); exact BK514.out)) : gb633 ≠ gb514)); have n9_ := a0_ ((by rw [hg]; exact Nat.ne_of_lt (blk_lt (g := gb531) (o := .cells #[.int .i64 t527, .int .i64 t528, .int .i64 t529] 23 (0, 0)) (by (with_reducible repeat first | apply bN_ | apply bD_ | apply bA_); exact BK531.out)) : gb531 ≠ gb633)); have n10_ := a0_ ((by rw [hg]; exact Nat.ne_of_gt (blk_lt (g := gb531) (o := .cells #[.int .i64 t527, .int .i64 t528, .int .i64 t529] 23 (0, 0)) (by (with_reducible repeat first | apply bN_ | apply bD_ | apply bA_); exact BK531.out)) : gb633 ≠ gb531)); have n11_ := a0_ ((by rw [hg]; exact Nat.ne_of_lt (IsS62.lt (show IsS62 w _ g525 t620 t621 t622 t623 t624 t625 t626 t627 t628 from by repeat (first | (with_reducible first | exact HI525.out | apply sA_ | apply sN_ | apply sD_ | refine sF_ ?_ NB525_514.out _ | refine sF_ ?_ NB525_531.out _) | exact HI525.out))) : g525 ≠ gb633)); have n12_ := a0_ ((by rw [hg]; exact Nat.ne_of_gt (IsS62.lt (show IsS62 w _ g525 t620 t621 t622 t623 t624 t625 t626 t627 t628 from by repeat (first | (with_reducible first | exact HI525.out | apply sA_ | apply sN_ | apply sD_ | refine sF_ ?_ NB525_514.out _ | refine sF_ ?_ NB525_531.out _) | exact HI525.out))) : gb633 ≠ g525)); clear BK514; clear BK531; clear HI525; clear HB; have BK514 := n0_; have BK531 := n1_; have HI525 := n2_; have HB := n3_; have BK633 := n4_; have GW633 := n5_; have GE633 := n6_; have NB514_633 := n7_; have NB633_514 := n8_; have NB531_633 := n9_; have NB633_531 := n10_; have NB525_633 := n11_; have NB633_525 := n12_; clear n0_ n1_ n2_ n3_ n4_ n5_ n6_ n7_ n8_ n9_ n10_ n11_ n12_; clear hb hbox hg; have hnb114 := NB633_514.out; have hnc114 := NB514_633.out; have hnb115 := NB633_531.out; have hnc115 := NB531_633.out; have hnb116 := NB633_525.out; have hnc116 := NB525_633.out; have hcz117_0 : w113.cell? ⟨gb633, 0, none⟩ = some (.int .i64 0) := (bC_ BK633.out 0).trans rfl; have hcz117_1 : w113.cell? ⟨gb633, 1, none⟩ = some (.int .i64 0) := (bC_ BK633.out 1).trans rfl; have hcz117_2 : w113.cell? ⟨gb633, 2, none⟩ = some (.int .i64 0) := (bC_ BK633.out 2).trans rfl; have hfz117_0 := bF_ BK633.out 0; have hfz117_1 := bF_ BK633.out 1; have hfz117_2 := bF_ BK633.out 2) | ((with_reducible refine gate_callee (f := 24) rfl ?_); refine goesL_ (some 146) rfl rfl Try.func24 (by kernel_rfl) rfl #[.pointer (some ⟨g525, 0, none⟩)] rfl (by (try simp only [List.map_toArray, List.map_cons, List.map_nil]); first | done | rfl) ?_; (with_reducible refine (period_Year_Count.calls g525 t620 t621 t622 t623 t624 t625 t626 t627 t628 t634 t635 t636 t637 t638 t639 t640 t641 t642 t643 w _ ?side1 ?side2 A105.out).mono ?_); (case side1 => repeat (first | (with_reducible first | exact HI525.out | apply sA_ | apply sN_ | apply sD_ | refine sF_ ?_ NB525_514.out _ | refine sF_ ?_ NB525_531.out _ | refine sF_ ?_ NB525_633.out _) | exact HI525.out)); (case side2 => repeat (first | (with_reducible first | exact HB.out | apply lA_ | apply lN_ | apply lD_ | refine lS_ ?_ (sG_ HI525.out) | refine lS_ ?_ GE514.out | refine lS_ ?_ GE531.out | refine lS_ ?_ GE633.out) | exact HB.out)); rintro e w118 ⟨rfl, hi, hb, hk⟩; refine ⟨_, rfl, ?_⟩; have n0_ := a0_ (KeepBut.blk hk (g' := gb514) (o := .cells #[.int .i64 a1_0, .int .i64 a1_1, .int .i64 a1_2] 23 (0, 0)) (by (with_reducible repeat first | apply bN_ | apply bD_ | apply bA_); refine blk_far ?_ NB514_633.out _; (with_reducible repeat first | apply bN_ | apply bD_ | apply bA_); refine blk_far ?_ NB514_633.out _; (with_reducible repeat first | apply bN_ | apply bD_ | apply bA_); refine blk_far ?_ NB514_633.out _; (with_reducible repeat first | apply bN_ | apply bD_ | apply bA_); exact BK514.out) NB514_525.out (by simp)); have n1_ := a0_ (KeepBut.blk hk (g' := gb531) (o := .cells #[.int .i64 t527, .int .i64 t528, .int .i64 t529] 23 (0, 0)) (by (with_reducible repeat first | apply bN_ | apply bD_ | apply bA_); refine blk_far ?_ NB531_633.out _; (with_reducible repeat first | apply bN_ | apply bD_ | apply bA_); refine blk_far ?_ NB531_633.out _; (with_reducible repeat first | apply bN_ | apply bD_ | apply bA_); refine blk_far ?_ NB531_633.out _; (with_reducible repeat first | apply bN_ | apply bD_ | apply bA_); exact BK531.out) NB531_525.out (by simp)); have n2_ := a0_ (KeepBut.blk hk (g' := gb633) (o := .cells #[.int .i64 t629, .int .i64 t630, .int .i64 t631] 23 (0, 0)) (by (with_reducible repeat first | apply bN_ | apply bD_ | apply bA_); refine blk_put (cs := #[.int .i64 t629, .int .i64 t630, .int .i64 0]) ?_ 2 _ rfl; (with_reducible repeat first | apply bN_ | apply bD_ | apply bA_); refine blk_put (cs := #[.int .i64 t629, .int .i64 0, .int .i64 0]) ?_ 1 _ rfl; (with_reducible repeat first | apply bN_ | apply bD_ | apply bA_); refine blk_put (cs := #[.int .i64 0, .int .i64 0, .int .i64 0]) ?_ 0 _ rfl; (with_reducible repeat first | apply bN_ | apply bD_ | apply bA_); exact BK633.out) NB633_525.out (by simp)); have n3_ := a0_ (hb); have n4_ := a0_ (hi); clear BK514; clear BK531; clear BK633; clear HB; clear HI525; have BK514 := n0_; have BK531 := n1_; have BK633 := n2_; have HB := n3_; have HI525 := n4_; clear n0_ n1_ n2_ n3_ n4_; (try clear hb); (try clear hb2); (try clear hk); (try clear hi)) | (go_at_call 11; (with_reducible refine (period_Nominal.calls a0 t644 _ A108.out).mono ?_); rintro e w' ⟨rfl, ⟨nd, rfl⟩⟩))
                      go_ret
                      exact ⟨by first | rfl | (simp [errW_none, errW_some] <;> rfl) | (simp [*, errW_none, errW_some] <;> rfl), by repeat (first | (with_reducible first | exact HB.out | apply lA_ | apply lN_ | apply lD_ | refine lS_ ?_ (sG_ HI525.out) | refine lS_ ?_ GE514.out | refine lS_ ?_ GE531.out | refine lS_ ?_ GE633.out) | exact HB.out)⟩
                     ·rw [if_neg c107] at H
                      exact absurd H (by simp)
                    ·rw [if_neg c106] at H
                     exact absurd H (by simp)
                   ·rw [if_neg c104] at H
                    exact absurd H (by simp)
                  ·rw [if_neg c103] at H
                   exact absurd H (by simp)
                 ·rw [if_neg c102] at H
                  exact absurd H (by simp)
  ·rw [if_neg c5] at H
   have c5b0 : period_New.made a0 a1_0 a1_1 a1_2 = false := by simpa using c5
   clear c5
   replace H := oB_ H
   obtain ⟨t645, A1190, H⟩ := H
   replace H : (if a0 < 1 then (stipendlaw04_PeriodMakes.j5 k t645 true a1_0 a1_1 a1_2) else (stipendlaw04_PeriodMakes.j5 k t645 (decide (a0 > 4)) a1_0 a1_1 a1_2)) = some r := H
   have A119 := a0_ A1190
   clear A1190
   have HC120 := a0_ H
   clear H
   go_enter Try.func4, Try.ntmps4
   go_upto_region 4 with (first | ((with_reducible refine gate_dst (N := 3) rfl ?_); refine box_event ?hg (N := 3) ?hd (cs := #[.int .i64 a1_0, .int .i64 a1_1, .int .i64 a1_2]) (t := 23) ?hr ?_; (case hd => rfl); (case hg => rfl); (case hr => first | (go_simp; done) | (go_simp; rfl)); intro gb514 hg w121 hbox hb; have n0_ := a0_ (below_step (by repeat (first | (with_reducible first | exact HB.out | apply lA_ | apply lN_ | apply lD_) | exact HB.out)) hb); have n1_ := a0_ (hbox); have n2_ := a0_ ((by rw [hg]; exact (below_size (by repeat (first | (with_reducible first | exact HB.out | apply lA_ | apply lN_ | apply lD_) | exact HB.out))) : w.heap.size ≤ gb514)); have n3_ := a0_ ((by rw [hg]; exact (below_size (by repeat (first | (with_reducible first | exact HB.out | apply lA_ | apply lN_ | apply lD_) | exact HB.out))) : w.heap.size ≤ gb514)); clear HB; have HB := n0_; have BK514 := n1_; have GW514 := n2_; have GE514 := n3_; clear n0_ n1_ n2_ n3_; clear hb hbox hg) | ((with_reducible refine gate_callee (f := 20) rfl ?_); refine goesL_ (some 17) rfl rfl Try.func20 (by kernel_rfl) rfl #[] rfl (by (try simp only [List.map_toArray, List.map_cons, List.map_nil]); first | done | rfl) ?_; (with_reducible refine (stipendlaw04_cuts.calls k  true _ A3.out).mono ?_); rintro e w122 ⟨rfl, hb⟩; refine ⟨_, rfl, ?_⟩; have n0_ := a0_ (bB_ (g := gb514) (o := .cells #[.int .i64 a1_0, .int .i64 a1_1, .int .i64 a1_2] 23 (0, 0)) (by (with_reducible repeat first | apply bN_ | apply bD_ | apply bA_); exact BK514.out) hb); have n1_ := a0_ (below_step (by repeat (first | (with_reducible first | exact HB.out | apply lA_ | apply lN_ | apply lD_ | refine lS_ ?_ GE514.out) | exact HB.out)) hb); clear BK514; clear HB; have BK514 := n0_; have HB := n1_; clear n0_ n1_; (try clear hb); (try clear hb2); (try clear hk); (try clear hi); have hcz123_0 : w122.cell? ⟨gb514, 0, none⟩ = some (.int .i64 a1_0) := (bC_ BK514.out 0).trans rfl; have hcz123_1 : w122.cell? ⟨gb514, 1, none⟩ = some (.int .i64 a1_1) := (bC_ BK514.out 1).trans rfl; have hcz123_2 : w122.cell? ⟨gb514, 2, none⟩ = some (.int .i64 a1_2) := (bC_ BK514.out 2).trans rfl; have hfz123_0 := bF_ BK514.out 0; have hfz123_1 := bF_ BK514.out 1; have hfz123_2 := bF_ BK514.out 2) | ((with_reducible refine gate_callee (f := 12) rfl ?_); refine goesL_ (some 22) rfl rfl Try.func12 (by kernel_rfl) rfl #[.int .i64 a0, .agg #[.int .i64 a1_0, .int .i64 a1_1, .int .i64 a1_2]] rfl (by (try simp only [List.map_toArray, List.map_cons, List.map_nil]); first | done | rfl) ?_; (with_reducible refine (period_New_B.calls k a0 a1_0 a1_1 a1_2 t645 _ A119.out).mono ?_); rintro e w124 ⟨rfl, hb⟩; refine ⟨_, rfl, ?_⟩; have n0_ := a0_ (bB_ (g := gb514) (o := .cells #[.int .i64 a1_0, .int .i64 a1_1, .int .i64 a1_2] 23 (0, 0)) (by (with_reducible repeat first | apply bN_ | apply bD_ | apply bA_); exact BK514.out) hb); have n1_ := a0_ (below_step (by repeat (first | (with_reducible first | exact HB.out | apply lA_ | apply lN_ | apply lD_ | refine lS_ ?_ GE514.out) | exact HB.out)) hb); clear BK514; clear HB; have BK514 := n0_; have HB := n1_; clear n0_ n1_; (try clear hb); (try clear hb2); (try clear hk); (try clear hi)))
   (try simp only [Act.put, zA_, zB_, zC_])
   go_cut [30] (fun v30 wc => ∃ (kq : Nat) (x30_119 : Bool), v30 = .bool x30_119 ∧ Aside0 (stipendlaw04_PeriodMakes.j5 kq t645 x30_119 a1_0 a1_1 a1_2 = some r) ∧ Aside0 (kq ≤ k) ∧ Aside0 (wc.heap[gb514]? = some (.cells #[.int .i64 a1_0, .int .i64 a1_1, .int .i64 a1_2] 23 (0, 0))) ∧ Aside0 (Below w.heap.size w wc))
   case first =>
    have H := HC120.out
    clear HC120
    by_cases c125 : a0 < 1
    ·rw [if_pos c125] at H
     have c125b0 : decide (a0 < 1) = true := decide_eq_true c125
     clear c125
     (first | rw [c125b0] | (simp only [i64_w, i32_w]; rw [c125b0]) | skip)
     have H' := a0_ H
     clear H
     go_wp2
     go_meet
     case rel => exact ⟨_, (true), (by first | rfl | (simp; done) | (simp [*]; done)), H', ⟨by first | omega | exact Nat.le_refl _⟩, ⟨by (with_reducible repeat first | apply bN_ | apply bD_ | apply bA_); exact BK514.out⟩, ⟨by repeat (first | (with_reducible first | exact HB.out | apply lA_ | apply lN_ | apply lD_ | refine lS_ ?_ GE514.out) | exact HB.out)⟩⟩
    ·rw [if_neg c125] at H
     have c125b0 : decide (a0 < 1) = false := decide_eq_false c125
     clear c125
     (first | rw [c125b0] | (simp only [i64_w, i32_w]; rw [c125b0]) | skip)
     have H' := a0_ H
     clear H
     go_wp2
     go_meet
     case rel => exact ⟨_, (decide (a0 > 4)), (by first | rfl | (simp; done) | (simp [*]; done)), H', ⟨by first | omega | exact Nat.le_refl _⟩, ⟨by (with_reducible repeat first | apply bN_ | apply bD_ | apply bA_); exact BK514.out⟩, ⟨by repeat (first | (with_reducible first | exact HB.out | apply lA_ | apply lN_ | apply lD_ | refine lS_ ?_ GE514.out) | exact HB.out)⟩⟩
   case rest =>
    clear HC120
    try clear p2
    try clear c4
    try clear c5
    try clear c5b0
    try clear c12
    try clear c23
    try clear c24
    try clear c48
    try clear c48b0
    try clear c61
    try clear c62
    try clear c62b0
    try clear c62b1
    try clear c64
    try clear c64b0
    try clear c66
    try clear c66b0
    try clear c66b1
    try clear c67
    try clear c67b0
    try clear c68
    try clear c68b0
    try clear c70
    try clear c70b0
    try clear c70b1
    try clear c71
    try clear c71b0
    try clear c98
    try clear c98b0
    try clear c98b1
    try clear c99
    try clear c101
    try clear c102
    try clear c102b0
    try clear c102b1
    try clear c103
    try clear c103b0
    try clear c104
    try clear c104b0
    try clear c106
    try clear c106b0
    try clear c106b1
    try clear c107
    try clear c107b0
    try clear c125
    try clear c125b0
    try clear hcz111_0
    try clear hcz111_1
    try clear hcz111_2
    try clear hcz117_0
    try clear hcz117_1
    try clear hcz117_2
    try clear hcz123_0
    try clear hcz123_1
    try clear hcz123_2
    try clear hcz76_0
    try clear hcz76_1
    try clear hcz76_2
    try clear hcz83_0
    try clear hcz83_1
    try clear hcz83_2
    try clear hfz111_0
    try clear hfz111_1
    try clear hfz111_2
    try clear hfz117_0
    try clear hfz117_1
    try clear hfz117_2
    try clear hfz123_0
    try clear hfz123_1
    try clear hfz123_2
    try clear hfz76_0
    try clear hfz76_1
    try clear hfz76_2
    try clear hfz83_0
    try clear hfz83_1
    try clear hfz83_2
    try clear p2
    obtain ⟨kq, x30_119, rfl, HA, HJ119, BK514, HB⟩ := hcut
    cases kq with
    | zero => exact absurd HA.out (by simp [stipendlaw04_PeriodMakes.j5])
    | succ kj119 =>
     have H := HA.out
     clear HA
     simp only [stipendlaw04_PeriodMakes.j5] at H
     by_cases c126 : x30_119 = true
     ·subst c126
      have H1 : (some (t645 == 40)) = some r := by rw [if_pos rfl] at H; exact H
      clear H
      have H := H1
      clear H1
      obtain rfl := Option.some.inj H
      go_wp2
      go_ret
      exact ⟨by first | rfl | (simp [errW_none, errW_some] <;> rfl) | (simp [*, errW_none, errW_some] <;> rfl), by repeat (first | (with_reducible first | exact HB.out | apply lA_ | apply lN_ | apply lD_ | refine lS_ ?_ GE514.out) | exact HB.out)⟩
     ·replace c126 := Bool.eq_false_iff.mpr c126
      subst c126
      have H1 : ((stipendref03_Months.f kj119 a1_0 a1_1 a1_2 12).bind fun bt646 => (if bt646.2.2.2 = true then (if a1_1 = 2 then (stipendlaw04_PeriodMakes.j6 kj119 t645 (a1_2 == 29)) else (stipendlaw04_PeriodMakes.j6 kj119 t645 false)) else (stipendlaw04_PeriodMakes.j6 kj119 t645 true))) = some r := by rw [if_neg (show ¬ (false = true) by decide)] at H; exact H
      clear H
      have H := H1
      clear H1
      replace H := oB_ H
      obtain ⟨⟨t646, t647, t648, t649⟩, A1270, H⟩ := H
      replace H : (if t649 = true then (if a1_1 = 2 then (stipendlaw04_PeriodMakes.j6 kj119 t645 (a1_2 == 29)) else (stipendlaw04_PeriodMakes.j6 kj119 t645 false)) else (stipendlaw04_PeriodMakes.j6 kj119 t645 true)) = some r := H
      have A127 := a0_ A1270
      clear A1270
      have HC128 := a0_ H
      clear H
      have hcz129_0 : wc.cell? ⟨gb514, 0, none⟩ = some (.int .i64 a1_0) := (bC_ BK514.out 0).trans rfl
      have hcz129_1 : wc.cell? ⟨gb514, 1, none⟩ = some (.int .i64 a1_1) := (bC_ BK514.out 1).trans rfl
      have hcz129_2 : wc.cell? ⟨gb514, 2, none⟩ = some (.int .i64 a1_2) := (bC_ BK514.out 2).trans rfl
      have hfz129_0 := bF_ BK514.out 0
      have hfz129_1 := bF_ BK514.out 1
      have hfz129_2 := bF_ BK514.out 2
      go_upto_region 7 with (first | ((with_reducible refine gate_callee (f := 21) rfl ?_); refine goesL_ (some 39) rfl rfl Try.func21 (by kernel_rfl) rfl #[.agg #[.int .i64 a1_0, .int .i64 a1_1, .int .i64 a1_2], .int .i64 12] rfl (by (try simp only [List.map_toArray, List.map_cons, List.map_nil]); first | done | rfl) ?_; (with_reducible refine (stipendref03_Months.calls kj119 a1_0 a1_1 a1_2 12 t646 t647 t648 t649 _ A127.out).mono ?_); rintro e w130 ⟨rfl, hb⟩; refine ⟨_, rfl, ?_⟩; have n0_ := a0_ (bB_ (g := gb514) (o := .cells #[.int .i64 a1_0, .int .i64 a1_1, .int .i64 a1_2] 23 (0, 0)) (by (with_reducible repeat first | apply bN_ | apply bD_ | apply bA_); exact BK514.out) hb); have n1_ := a0_ (below_step (by repeat (first | (with_reducible first | exact HB.out | apply lA_ | apply lN_ | apply lD_ | refine lS_ ?_ GE514.out) | exact HB.out)) hb); clear BK514; clear HB; have BK514 := n0_; have HB := n1_; clear n0_ n1_; (try clear hb); (try clear hb2); (try clear hk); (try clear hi)) | ((with_reducible refine gate_dst (N := 7) rfl ?_); refine box_event ?hg (N := 7) ?hd (cs := #[.int .i64 0, .int .i64 0, .int .i64 0]) (t := 23) ?hr ?_; (case hd => rfl); (case hg => rfl); (case hr => first | (go_simp; done) | (go_simp; rfl)); intro gb650 hg w131 hbox hb; have n0_ := a0_ (bB_ (g := gb514) (o := .cells #[.int .i64 a1_0, .int .i64 a1_1, .int .i64 a1_2] 23 (0, 0)) (by (with_reducible repeat first | apply bN_ | apply bD_ | apply bA_); exact BK514.out) hb); have n1_ := a0_ (below_step (by repeat (first | (with_reducible first | exact HB.out | apply lA_ | apply lN_ | apply lD_ | refine lS_ ?_ GE514.out) | exact HB.out)) hb); have n2_ := a0_ (hbox); have n3_ := a0_ ((by rw [hg]; exact (below_size (by repeat (first | (with_reducible first | exact HB.out | apply lA_ | apply lN_ | apply lD_ | refine lS_ ?_ GE514.out) | exact HB.out))) : w.heap.size ≤ gb650)); have n4_ := a0_ ((by rw [hg]; exact (below_size (by repeat (first | (with_reducible first | exact HB.out | apply lA_ | apply lN_ | apply lD_ | refine lS_ ?_ GE514.out) | exact HB.out))) : w.heap.size ≤ gb650)); have n5_ := a0_ ((by rw [hg]; exact Nat.ne_of_lt (blk_lt (g := gb514) (o := .cells #[.int .i64 a1_0, .int .i64 a1_1, .int .i64 a1_2] 23 (0, 0)) (by (with_reducible repeat first | apply bN_ | apply bD_ | apply bA_); exact BK514.out)) : gb514 ≠ gb650)); have n6_ := a0_ ((by rw [hg]; exact Nat.ne_of_gt (blk_lt (g := gb514) (o := .cells #[.int .i64 a1_0, .int .i64 a1_1, .int .i64 a1_2] 23 (0, 0)) (by (with_reducible repeat first | apply bN_ | apply bD_ | apply bA_); exact BK514.out)) : gb650 ≠ gb514)); clear BK514; clear HB; have BK514 := n0_; have HB := n1_; have BK650 := n2_; have GW650 := n3_; have GE650 := n4_; have NB514_650 := n5_; have NB650_514 := n6_; clear n0_ n1_ n2_ n3_ n4_ n5_ n6_; clear hb hbox hg; have hnb132 := NB650_514.out; have hnc132 := NB514_650.out; have hcz133_0 : w131.cell? ⟨gb650, 0, none⟩ = some (.int .i64 0) := (bC_ BK650.out 0).trans rfl; have hcz133_1 : w131.cell? ⟨gb650, 1, none⟩ = some (.int .i64 0) := (bC_ BK650.out 1).trans rfl; have hcz133_2 : w131.cell? ⟨gb650, 2, none⟩ = some (.int .i64 0) := (bC_ BK650.out 2).trans rfl; have hfz133_0 := bF_ BK650.out 0; have hfz133_1 := bF_ BK650.out 1; have hfz133_2 := bF_ BK650.out 2))
      (try simp only [Act.put, zA_, zB_, zC_])
      go_cut [53] (fun v53 wc => ∃ (kq : Nat) (x53_127 : Bool), v53 = .bool x53_127 ∧ Aside0 (stipendlaw04_PeriodMakes.j6 kq t645 x53_127 = some r) ∧ Aside0 (kq ≤ kj119) ∧ Aside0 (wc.heap[gb514]? = some (.cells #[.int .i64 a1_0, .int .i64 a1_1, .int .i64 a1_2] 23 (0, 0))) ∧ Aside0 (wc.heap[gb650]? = some (.cells #[.int .i64 t646, .int .i64 t647, .int .i64 t648] 23 (0, 0))) ∧ Aside0 (Below w.heap.size w wc))
      case first =>
       have H := HC128.out
       clear HC128
       by_cases c134 : t649 = true
       ·subst c134
        have H1 : (if a1_1 = 2 then (stipendlaw04_PeriodMakes.j6 kj119 t645 (a1_2 == 29)) else (stipendlaw04_PeriodMakes.j6 kj119 t645 false)) = some r := by rw [if_pos rfl] at H; exact H
        clear H
        have H := H1
        clear H1
        by_cases c135 : a1_1 = 2
        ·rw [if_pos c135] at H
         have c135b0 : (a1_1 == 2) = true := beq_iff_eq.mpr c135
         have c135b1 : (a1_1 != 2) = false := bne_eq_false_iff_eq.mpr c135
         clear c135
         (first | rw [c135b0] | (simp only [i64_w, i32_w]; rw [c135b0]) | skip)
         have H' := a0_ H
         clear H
         have hnb136 := NB514_650.out
         have hnc136 := NB650_514.out
         have hcz137_0 : w131.cell? ⟨gb514, 0, none⟩ = some (.int .i64 a1_0) := (bC_ BK514.out 0).trans rfl
         have hcz137_1 : w131.cell? ⟨gb514, 1, none⟩ = some (.int .i64 a1_1) := (bC_ BK514.out 1).trans rfl
         have hcz137_2 : w131.cell? ⟨gb514, 2, none⟩ = some (.int .i64 a1_2) := (bC_ BK514.out 2).trans rfl
         have hfz137_0 := bF_ BK514.out 0
         have hfz137_1 := bF_ BK514.out 1
         have hfz137_2 := bF_ BK514.out 2
         go_wp2
         go_meet
         case rel => exact ⟨_, ((a1_2 == 29)), (by first | rfl | (simp; done) | (simp [*]; done)), H', ⟨by have := HJ119.out; first | omega | exact Nat.le_refl _⟩, ⟨by (with_reducible repeat first | apply bN_ | apply bD_ | apply bA_); refine blk_far ?_ NB514_650.out _; (with_reducible repeat first | apply bN_ | apply bD_ | apply bA_); refine blk_far ?_ NB514_650.out _; (with_reducible repeat first | apply bN_ | apply bD_ | apply bA_); refine blk_far ?_ NB514_650.out _; (with_reducible repeat first | apply bN_ | apply bD_ | apply bA_); exact BK514.out⟩, ⟨by (with_reducible repeat first | apply bN_ | apply bD_ | apply bA_); refine blk_put (cs := #[.int .i64 t646, .int .i64 t647, .int .i64 0]) ?_ 2 _ rfl; (with_reducible repeat first | apply bN_ | apply bD_ | apply bA_); refine blk_put (cs := #[.int .i64 t646, .int .i64 0, .int .i64 0]) ?_ 1 _ rfl; (with_reducible repeat first | apply bN_ | apply bD_ | apply bA_); refine blk_put (cs := #[.int .i64 0, .int .i64 0, .int .i64 0]) ?_ 0 _ rfl; (with_reducible repeat first | apply bN_ | apply bD_ | apply bA_); exact BK650.out⟩, ⟨by repeat (first | (with_reducible first | exact HB.out | apply lA_ | apply lN_ | apply lD_ | refine lS_ ?_ GE514.out | refine lS_ ?_ GE650.out) | exact HB.out)⟩⟩
        ·rw [if_neg c135] at H
         have c135b0 : (a1_1 == 2) = false := beq_eq_false_iff_ne.mpr c135
         have c135b1 : (a1_1 != 2) = true := bne_iff_ne.mpr c135
         (first | rw [c135b0] | (simp only [i64_w, i32_w]; rw [c135b0]) | skip)
         have H' := a0_ H
         clear H
         have hnb138 := NB514_650.out
         have hnc138 := NB650_514.out
         have hcz139_0 : w131.cell? ⟨gb514, 0, none⟩ = some (.int .i64 a1_0) := (bC_ BK514.out 0).trans rfl
         have hcz139_1 : w131.cell? ⟨gb514, 1, none⟩ = some (.int .i64 a1_1) := (bC_ BK514.out 1).trans rfl
         have hcz139_2 : w131.cell? ⟨gb514, 2, none⟩ = some (.int .i64 a1_2) := (bC_ BK514.out 2).trans rfl
         have hfz139_0 := bF_ BK514.out 0
         have hfz139_1 := bF_ BK514.out 1
         have hfz139_2 := bF_ BK514.out 2
         go_wp2
         go_meet
         case rel => exact ⟨_, (false), (by first | rfl | (simp; done) | (simp [*]; done)), H', ⟨by have := HJ119.out; first | omega | exact Nat.le_refl _⟩, ⟨by (with_reducible repeat first | apply bN_ | apply bD_ | apply bA_); refine blk_far ?_ NB514_650.out _; (with_reducible repeat first | apply bN_ | apply bD_ | apply bA_); refine blk_far ?_ NB514_650.out _; (with_reducible repeat first | apply bN_ | apply bD_ | apply bA_); refine blk_far ?_ NB514_650.out _; (with_reducible repeat first | apply bN_ | apply bD_ | apply bA_); exact BK514.out⟩, ⟨by (with_reducible repeat first | apply bN_ | apply bD_ | apply bA_); refine blk_put (cs := #[.int .i64 t646, .int .i64 t647, .int .i64 0]) ?_ 2 _ rfl; (with_reducible repeat first | apply bN_ | apply bD_ | apply bA_); refine blk_put (cs := #[.int .i64 t646, .int .i64 0, .int .i64 0]) ?_ 1 _ rfl; (with_reducible repeat first | apply bN_ | apply bD_ | apply bA_); refine blk_put (cs := #[.int .i64 0, .int .i64 0, .int .i64 0]) ?_ 0 _ rfl; (with_reducible repeat first | apply bN_ | apply bD_ | apply bA_); exact BK650.out⟩, ⟨by repeat (first | (with_reducible first | exact HB.out | apply lA_ | apply lN_ | apply lD_ | refine lS_ ?_ GE514.out | refine lS_ ?_ GE650.out) | exact HB.out)⟩⟩
       ·replace c134 := Bool.eq_false_iff.mpr c134
        subst c134
        have H1 : (stipendlaw04_PeriodMakes.j6 kj119 t645 true) = some r := by rw [if_neg (show ¬ (false = true) by decide)] at H; exact H
        clear H
        have H := H1
        clear H1
        have H' := a0_ H
        clear H
        go_wp2
        go_meet
        case rel => exact ⟨_, (true), (by first | rfl | (simp; done) | (simp [*]; done)), H', ⟨by have := HJ119.out; first | omega | exact Nat.le_refl _⟩, ⟨by (with_reducible repeat first | apply bN_ | apply bD_ | apply bA_); refine blk_far ?_ NB514_650.out _; (with_reducible repeat first | apply bN_ | apply bD_ | apply bA_); refine blk_far ?_ NB514_650.out _; (with_reducible repeat first | apply bN_ | apply bD_ | apply bA_); refine blk_far ?_ NB514_650.out _; (with_reducible repeat first | apply bN_ | apply bD_ | apply bA_); exact BK514.out⟩, ⟨by (with_reducible repeat first | apply bN_ | apply bD_ | apply bA_); refine blk_put (cs := #[.int .i64 t646, .int .i64 t647, .int .i64 0]) ?_ 2 _ rfl; (with_reducible repeat first | apply bN_ | apply bD_ | apply bA_); refine blk_put (cs := #[.int .i64 t646, .int .i64 0, .int .i64 0]) ?_ 1 _ rfl; (with_reducible repeat first | apply bN_ | apply bD_ | apply bA_); refine blk_put (cs := #[.int .i64 0, .int .i64 0, .int .i64 0]) ?_ 0 _ rfl; (with_reducible repeat first | apply bN_ | apply bD_ | apply bA_); exact BK650.out⟩, ⟨by repeat (first | (with_reducible first | exact HB.out | apply lA_ | apply lN_ | apply lD_ | refine lS_ ?_ GE514.out | refine lS_ ?_ GE650.out) | exact HB.out)⟩⟩
      case rest =>
       clear HC128
       try clear p2
       try clear c4
       try clear c5
       try clear c5b0
       try clear c12
       try clear c13
       try clear c23
       try clear c24
       try clear c48
       try clear c48b0
       try clear c61
       try clear c62
       try clear c62b0
       try clear c62b1
       try clear c64
       try clear c64b0
       try clear c66
       try clear c66b0
       try clear c66b1
       try clear c67
       try clear c67b0
       try clear c68
       try clear c68b0
       try clear c70
       try clear c70b0
       try clear c70b1
       try clear c71
       try clear c71b0
       try clear c98
       try clear c98b0
       try clear c98b1
       try clear c99
       try clear c101
       try clear c102
       try clear c102b0
       try clear c102b1
       try clear c103
       try clear c103b0
       try clear c104
       try clear c104b0
       try clear c106
       try clear c106b0
       try clear c106b1
       try clear c107
       try clear c107b0
       try clear c125
       try clear c125b0
       try clear c126
       try clear c134
       try clear c135
       try clear c135b0
       try clear c135b1
       try clear hcz111_0
       try clear hcz111_1
       try clear hcz111_2
       try clear hcz117_0
       try clear hcz117_1
       try clear hcz117_2
       try clear hcz123_0
       try clear hcz123_1
       try clear hcz123_2
       try clear hcz129_0
       try clear hcz129_1
       try clear hcz129_2
       try clear hcz133_0
       try clear hcz133_1
       try clear hcz133_2
       try clear hcz137_0
       try clear hcz137_1
       try clear hcz137_2
       try clear hcz139_0
       try clear hcz139_1
       try clear hcz139_2
       try clear hcz76_0
       try clear hcz76_1
       try clear hcz76_2
       try clear hcz83_0
       try clear hcz83_1
       try clear hcz83_2
       try clear hfz111_0
       try clear hfz111_1
       try clear hfz111_2
       try clear hfz117_0
       try clear hfz117_1
       try clear hfz117_2
       try clear hfz123_0
       try clear hfz123_1
       try clear hfz123_2
       try clear hfz129_0
       try clear hfz129_1
       try clear hfz129_2
       try clear hfz133_0
       try clear hfz133_1
       try clear hfz133_2
       try clear hfz137_0
       try clear hfz137_1
       try clear hfz137_2
       try clear hfz139_0
       try clear hfz139_1
       try clear hfz139_2
       try clear hfz76_0
       try clear hfz76_1
       try clear hfz76_2
       try clear hfz83_0
       try clear hfz83_1
       try clear hfz83_2
       try clear p2
       obtain ⟨kq, x53_127, rfl, HA, HJ127, BK514, BK650, HB⟩ := hcut
       cases kq with
       | zero => exact absurd HA.out (by simp [stipendlaw04_PeriodMakes.j6])
       | succ kj127 =>
        have H := HA.out
        clear HA
        simp only [stipendlaw04_PeriodMakes.j6] at H
        by_cases c140 : x53_127 = true
        ·subst c140
         have H1 : (some (t645 == 30)) = some r := by rw [if_pos rfl] at H; exact H
         clear H
         have H := H1
         clear H1
         obtain rfl := Option.some.inj H
         go_wp2
         go_ret
         exact ⟨by first | rfl | (simp [errW_none, errW_some] <;> rfl) | (simp [*, errW_none, errW_some] <;> rfl), by repeat (first | (with_reducible first | exact HB.out | apply lA_ | apply lN_ | apply lD_ | refine lS_ ?_ GE514.out | refine lS_ ?_ GE650.out) | exact HB.out)⟩
        ·replace c140 := Bool.eq_false_iff.mpr c140
         subst c140
         have H1 : (none) = some r := by rw [if_neg (show ¬ (false = true) by decide)] at H; exact H
         clear H
         have H := H1
         clear H1
         exact absurd H (by simp)
 ·replace c4 := Bool.eq_false_iff.mpr c4
  subst c4
  have H1 : (none) = some r := by rw [if_neg (show ¬ (false = true) by decide)] at H; exact H
  clear H
  have H := H1
  clear H1
  exact absurd H (by simp)

/-- THE ONE PURE STATEMENT of stipendlaw04_PeriodMakes: yours. -/
def stipendlaw04_PeriodMakes.Pure : Prop := ∀ (a0 : Int) (a1_0 : Int) (a1_1 : Int) (a1_2 : Int), (Lit.int .i64 a0).wf = true → (Lit.int .i64 a1_0).wf = true → (Lit.int .i64 a1_1).wf = true → (Lit.int .i64 a1_2).wf = true → ∃ k, stipendlaw04_PeriodMakes.f k a0 a1_0 a1_1 a1_2 = some true
theorem stipendlaw04_PeriodMakes.walk (P : stipendlaw04_PeriodMakes.Pure) (a0 : Int) (a1_0 : Int) (a1_1 : Int) (a1_2 : Int) (w : World) (w0 : (Lit.int .i64 a0).wf = true) (w1_0 : (Lit.int .i64 a1_0).wf = true) (w1_1 : (Lit.int .i64 a1_1).wf = true) (w1_2 : (Lit.int .i64 a1_2).wf = true) :
  Calls Try.prog 4 #[.int .i64 a0, .agg #[.int .i64 a1_0, .int .i64 a1_1, .int .i64 a1_2]] w fun e w' => e = .returned (.bool true) ∧ Below w.heap.size w w' := by
 obtain ⟨k, h⟩ := P a0 a1_0 a1_1 a1_2 w0 w1_0 w1_1 w1_2
 refine (stipendlaw04_PeriodMakes.calls k a0 a1_0 a1_1 a1_2 true w h).mono ?_
 rintro e w' ⟨rfl, hd⟩
 exact ⟨rfl, hd⟩

end Go.Proofs.Ytojinnnckfimhaa.X
