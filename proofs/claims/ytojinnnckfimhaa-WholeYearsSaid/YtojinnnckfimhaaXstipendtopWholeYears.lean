-- laid by the session's own program (xprint.py) out of Lean's print of the program; Lean checks it
import Derived.Test.YtojinnnckfimhaaX0
import Derived.Test.YtojinnnckfimhaaXperiodNominal
import Derived.Test.YtojinnnckfimhaaXdateAdd
import Derived.Test.YtojinnnckfimhaaXdateBetween
import Derived.Test.YtojinnnckfimhaaXperiodNewA
import Derived.Test.YtojinnnckfimhaaXperiodYearStart
import Derived.Test.YtojinnnckfimhaaXperiodYearNextA
import Derived.Test.YtojinnnckfimhaaXperiodYearIndex
import Derived.Test.YtojinnnckfimhaaXperiodYearSpan
namespace Go.Proofs.Ytojinnnckfimhaa.X
open Go.RowKit Go.Proofs.YtojinnnckfimhaaW.PrintWords Go.Proofs.YtojinnnckfimhaaW.PrintLast
set_option linter.unusedVariables false
set_option linter.unusedSimpArgs false

/-! ### stipendtop_WholeYears: function 3 -/
mutual
def stipendtop_WholeYears.j0 : Nat → Int → Int → Bool → Int → Int → Int → Option (Bool)
 | 0, _, _, _, _, _, _ => none
 | k + 1, x0, x2, x49, x1150000, x1150001, x1150002 => if x49 = true then (none) else (if x2 < 0 then (stipendtop_WholeYears.j1 k x0 x2 true x1150000 x1150001 x1150002) else (stipendtop_WholeYears.j1 k x0 x2 (decide (x2 > 4000)) x1150000 x1150001 x1150002))
def stipendtop_WholeYears.j1 : Nat → Int → Int → Bool → Int → Int → Int → Option (Bool)
 | 0, _, _, _, _, _, _ => none
 | k + 1, x0, x2, x55, x1150000, x1150001, x1150002 => if x55 = true then (some true) else (if period_New.made x0 x1150000 x1150001 x1150002 = true then ((period_New_A.f k x0 x1150000 x1150001 x1150002).bind fun bt1153 => ((date_Add.f k x1150000 x1150001 x1150002 x2).bind fun bt1164 => (if bt1164.2.2.2 = 0 then (stipendtop_WholeYears.l0 k 0 bt1153.1 bt1153.2.1 bt1153.2.2.1 bt1153.2.2.2.1 bt1153.2.2.2.2.1 bt1153.2.2.2.2.2.1 bt1153.2.2.2.2.2.2.1 bt1153.2.2.2.2.2.2.2.1 bt1153.2.2.2.2.2.2.2.2.1 bt1164.1 bt1164.2.1 bt1164.2.2.1) else (some true)))) else ((period_New_B.f k x0 x1150000 x1150001 x1150002).bind fun t1295 => (some true)))
def stipendtop_WholeYears.l0 : Nat → Int → Int → Int → Int → Int → Int → Int → Int → Int → Int → Int → Int → Int → Option (Bool)
 | 0, _, _, _, _, _, _, _, _, _, _, _, _, _ => none
 | k + 1, x72, x1163000, x1163001, x1163002, x1163003, x1163004, x1163005, x1163006, x1163007, x1163008, x1169000, x1169001, x1169002 => if x72 < 12 then ((period_Year_Index.f k x1163000 x1163001 x1163002 x1163003 x1163004 x1163005 x1163006 x1163007 x1163008 x1169000 x1169001 x1169002).bind fun bt1169 => (if bt1169.2.1 = 0 then (stipendtop_WholeYears.l1 k bt1169.1 0 1 bt1169.2.2.1 bt1169.2.2.2.1 bt1169.2.2.2.2.1 bt1169.2.2.2.2.2.1 bt1169.2.2.2.2.2.2.1 bt1169.2.2.2.2.2.2.2.1 bt1169.2.2.2.2.2.2.2.2.1 bt1169.2.2.2.2.2.2.2.2.2.1 bt1169.2.2.2.2.2.2.2.2.2.2 x1169000 x1169001 x1169002) else ((period_Year_End.f bt1169.2.2.1 bt1169.2.2.2.1 bt1169.2.2.2.2.1 bt1169.2.2.2.2.2.1 bt1169.2.2.2.2.2.2.1 bt1169.2.2.2.2.2.2.2.1 bt1169.2.2.2.2.2.2.2.2.1 bt1169.2.2.2.2.2.2.2.2.2.1 bt1169.2.2.2.2.2.2.2.2.2.2).bind fun bt1234 => ((date_Between.f k bt1234.1 bt1234.2.1 bt1234.2.2.1 x1169000 x1169001 x1169002).bind fun bt1246 => (if bt1246.1 ≤ 0 then (none) else (if period_Year_Next.made bt1234.2.2.2.1 bt1234.2.2.2.2.1 bt1234.2.2.2.2.2.1 bt1234.2.2.2.2.2.2.1 bt1234.2.2.2.2.2.2.2.1 bt1234.2.2.2.2.2.2.2.2.1 bt1234.2.2.2.2.2.2.2.2.2.1 bt1234.2.2.2.2.2.2.2.2.2.2.1 bt1234.2.2.2.2.2.2.2.2.2.2.2 = true then ((period_Year_Next_A.f k bt1234.2.2.2.1 bt1234.2.2.2.2.1 bt1234.2.2.2.2.2.1 bt1234.2.2.2.2.2.2.1 bt1234.2.2.2.2.2.2.2.1 bt1234.2.2.2.2.2.2.2.2.1 bt1234.2.2.2.2.2.2.2.2.2.1 bt1234.2.2.2.2.2.2.2.2.2.2.1 bt1234.2.2.2.2.2.2.2.2.2.2.2).bind fun bt1248 => ((period_Year_End.f bt1234.2.2.2.1 bt1234.2.2.2.2.1 bt1234.2.2.2.2.2.1 bt1234.2.2.2.2.2.2.1 bt1234.2.2.2.2.2.2.2.1 bt1234.2.2.2.2.2.2.2.2.1 bt1234.2.2.2.2.2.2.2.2.2.1 bt1234.2.2.2.2.2.2.2.2.2.2.1 bt1234.2.2.2.2.2.2.2.2.2.2.2).bind fun bt1259 => ((period_Year_Start.f bt1248.1 bt1248.2.1 bt1248.2.2.1 bt1248.2.2.2.1 bt1248.2.2.2.2.1 bt1248.2.2.2.2.2.1 bt1248.2.2.2.2.2.2.1 bt1248.2.2.2.2.2.2.2.1 bt1248.2.2.2.2.2.2.2.2.1).bind fun bt1271 => ((date_Between.f k bt1259.1 bt1259.2.1 bt1259.2.2.1 bt1271.1 bt1271.2.1 bt1271.2.2.1).bind fun bt1283 => (if bt1283.1 = 1 then (stipendtop_WholeYears.l0 k (wrap64 (x72 + 1)) bt1271.2.2.2.1 bt1271.2.2.2.2.1 bt1271.2.2.2.2.2.1 bt1271.2.2.2.2.2.2.1 bt1271.2.2.2.2.2.2.2.1 bt1271.2.2.2.2.2.2.2.2.1 bt1271.2.2.2.2.2.2.2.2.2.1 bt1271.2.2.2.2.2.2.2.2.2.2.1 bt1271.2.2.2.2.2.2.2.2.2.2.2 x1169000 x1169001 x1169002) else (none)))))) else ((period_Year_Next_B.f k bt1234.2.2.2.1 bt1234.2.2.2.2.1 bt1234.2.2.2.2.2.1 bt1234.2.2.2.2.2.2.1 bt1234.2.2.2.2.2.2.2.1 bt1234.2.2.2.2.2.2.2.2.1 bt1234.2.2.2.2.2.2.2.2.2.1 bt1234.2.2.2.2.2.2.2.2.2.2.1 bt1234.2.2.2.2.2.2.2.2.2.2.2).bind fun bt1285 => (some (bt1285.1 == 30))))))))) else (none)
def stipendtop_WholeYears.l1 : Nat → Int → Int → Int → Int → Int → Int → Int → Int → Int → Int → Int → Int → Int → Int → Int → Option (Bool)
 | 0, _, _, _, _, _, _, _, _, _, _, _, _, _, _, _ => none
 | k + 1, x13, x15, x16, x1163000, x1163001, x1163002, x1163003, x1163004, x1163005, x1163006, x1163007, x1163008, x1169000, x1169001, x1169002 => if x16 < x13 then ((period_Year_Span.f k x1163000 x1163001 x1163002 x1163003 x1163004 x1163005 x1163006 x1163007 x1163008 x16).bind fun bt1180 => ((date_Between.f k bt1180.1 bt1180.2.1 bt1180.2.2.1 bt1180.2.2.2.1 bt1180.2.2.2.2.1 bt1180.2.2.2.2.2.1).bind fun bt1198 => (stipendtop_WholeYears.l1 k x13 (wrap64 (x15 + (wrap64 (bt1198.1 + 1)))) (wrap64 (x16 + 1)) bt1180.2.2.2.2.2.2.2.1 bt1180.2.2.2.2.2.2.2.2.1 bt1180.2.2.2.2.2.2.2.2.2.1 bt1180.2.2.2.2.2.2.2.2.2.2.1 bt1180.2.2.2.2.2.2.2.2.2.2.2.1 bt1180.2.2.2.2.2.2.2.2.2.2.2.2.1 bt1180.2.2.2.2.2.2.2.2.2.2.2.2.2.1 bt1180.2.2.2.2.2.2.2.2.2.2.2.2.2.2.1 bt1180.2.2.2.2.2.2.2.2.2.2.2.2.2.2.2 x1169000 x1169001 x1169002))) else ((period_Year_Span.f k x1163000 x1163001 x1163002 x1163003 x1163004 x1163005 x1163006 x1163007 x1163008 x13).bind fun bt1200 => ((date_Between.f k bt1200.1 bt1200.2.1 bt1200.2.2.1 x1169000 x1169001 x1169002).bind fun bt1218 => ((period_Year_Start.f bt1200.2.2.2.2.2.2.2.1 bt1200.2.2.2.2.2.2.2.2.1 bt1200.2.2.2.2.2.2.2.2.2.1 bt1200.2.2.2.2.2.2.2.2.2.2.1 bt1200.2.2.2.2.2.2.2.2.2.2.2.1 bt1200.2.2.2.2.2.2.2.2.2.2.2.2.1 bt1200.2.2.2.2.2.2.2.2.2.2.2.2.2.1 bt1200.2.2.2.2.2.2.2.2.2.2.2.2.2.2.1 bt1200.2.2.2.2.2.2.2.2.2.2.2.2.2.2.2).bind fun bt1220 => ((date_Between.f k bt1220.1 bt1220.2.1 bt1220.2.2.1 x1169000 x1169001 x1169002).bind fun bt1232 => (if bt1200.2.2.2.2.2.2.1 = 0 then (if bt1218.2 = 0 then (if bt1232.2 = 0 then (if (wrap64 (x15 + bt1218.1)) = bt1232.1 then (some (decide (bt1218.1 ≥ 0))) else (none)) else (none)) else (none)) else (none))))))
end
def stipendtop_WholeYears.f (k : Nat) (a0 : Int) (a1_0 : Int) (a1_1 : Int) (a1_2 : Int) (a2 : Int) : Option (Bool) := (date_Number.f k 1900 1 2).bind fun bt1150 => (if bt1150.1 = 1 then (if bt1150.2 = 0 then ((period_Nominal.f 1).bind fun t1152 => (stipendtop_WholeYears.j0 k a0 a2 (t1152 != 52) a1_0 a1_1 a1_2)) else (stipendtop_WholeYears.j0 k a0 a2 true a1_0 a1_1 a1_2)) else (stipendtop_WholeYears.j0 k a0 a2 true a1_0 a1_1 a1_2))
def stipendtop_WholeYears.T25 : Bool × List (List Nat × List Nat) := (true, [([], []), ([0], [0]), ([], []), ([1, 2, 1], [1, 2]), ([3], [3]), ([4], [4]), ([4], [4]), ([5, 3, 0, 1, 2, 3, 4, 5], [5]), ([6, 7, 0, 1, 2, 3, 4, 5, 6, 7], [6])])
def stipendtop_WholeYears.B25 : List Nat := [0, 1, 0, 7, 15, 31, 31, 63, 255]
theorem stipendtop_WholeYears.tab25 : rtab .any (opsOf Try.f3 25) = stipendtop_WholeYears.T25 := by kernel_rfl
theorem stipendtop_WholeYears.bits25 : waitsOk stipendtop_WholeYears.T25.2 stipendtop_WholeYears.B25 = true := by kernel_rfl
def stipendtop_WholeYears.T27 : Bool × List (List Nat × List Nat) := (true, [([], []), ([0], [0]), ([], []), ([1, 2, 1], [1, 2]), ([3], [3]), ([4], [4]), ([4], [4]), ([5, 3, 0, 1, 2, 3, 4, 5], [5]), ([6, 7, 0, 1, 2, 3, 4, 5, 6, 7], [6])])
def stipendtop_WholeYears.B27 : List Nat := [0, 1, 0, 7, 15, 31, 31, 63, 255]
theorem stipendtop_WholeYears.tab27 : rtab .any (opsOf Try.f3 27) = stipendtop_WholeYears.T27 := by kernel_rfl
theorem stipendtop_WholeYears.bits27 : waitsOk stipendtop_WholeYears.T27.2 stipendtop_WholeYears.B27 = true := by kernel_rfl
set_option maxHeartbeats 8000000 in
set_option maxRecDepth 100000 in
theorem stipendtop_WholeYears.calls (k : Nat) (a0 : Int) (a1_0 : Int) (a1_1 : Int) (a1_2 : Int) (a2 : Int) (r : Bool) (w : World) (h : stipendtop_WholeYears.f k a0 a1_0 a1_1 a1_2 a2 = some r) :
  Calls Try.prog 3 #[.int .i64 a0, .agg #[.int .i64 a1_0, .int .i64 a1_1, .int .i64 a1_2], .int .i64 a2] w fun e w' => e = .returned (.bool r) ∧ Below w.heap.size w w' := by
 have hu23 := Try.underlying23
 have HB := a0_ (Below.refl w.heap.size w)
 have H : ((date_Number.f k 1900 1 2).bind fun bt1150 => (if bt1150.1 = 1 then (if bt1150.2 = 0 then ((period_Nominal.f 1).bind fun t1152 => (stipendtop_WholeYears.j0 k a0 a2 (t1152 != 52) a1_0 a1_1 a1_2)) else (stipendtop_WholeYears.j0 k a0 a2 true a1_0 a1_1 a1_2)) else (stipendtop_WholeYears.j0 k a0 a2 true a1_0 a1_1 a1_2))) = some r := h
 clear h
 replace H := oB_ H
 obtain ⟨⟨t1150, t1151⟩, A40, H⟩ := H
 replace H : (if t1150 = 1 then (if t1151 = 0 then ((period_Nominal.f 1).bind fun t1152 => (stipendtop_WholeYears.j0 k a0 a2 (t1152 != 52) a1_0 a1_1 a1_2)) else (stipendtop_WholeYears.j0 k a0 a2 true a1_0 a1_1 a1_2)) else (stipendtop_WholeYears.j0 k a0 a2 true a1_0 a1_1 a1_2)) = some r := H
 have A4 := a0_ A40
 clear A40
 have HC5 := a0_ H
 clear H
 go_enter Try.func3, Try.ntmps3
 go_upto_region 2 with (first | ((with_reducible refine gate_dst (N := 4) rfl ?_); refine box_event ?hg (N := 4) ?hd (cs := #[.int .i64 a1_0, .int .i64 a1_1, .int .i64 a1_2]) (t := 23) ?hr ?_; (case hd => rfl); (case hg => rfl); (case hr => first | (go_simp; done) | (go_simp; rfl)); intro gb1149 hg w6 hbox hb; have n0_ := a0_ (below_step (by repeat (first | (with_reducible first | exact HB.out | apply lA_ | apply lN_ | apply lD_) | exact HB.out)) hb); have n1_ := a0_ (hbox); have n2_ := a0_ ((by rw [hg]; exact (below_size (by repeat (first | (with_reducible first | exact HB.out | apply lA_ | apply lN_ | apply lD_) | exact HB.out))) : w.heap.size ≤ gb1149)); have n3_ := a0_ ((by rw [hg]; exact (below_size (by repeat (first | (with_reducible first | exact HB.out | apply lA_ | apply lN_ | apply lD_) | exact HB.out))) : w.heap.size ≤ gb1149)); clear HB; have HB := n0_; have BK1149 := n1_; have GW1149 := n2_; have GE1149 := n3_; clear n0_ n1_ n2_ n3_; clear hb hbox hg) | ((with_reducible refine gate_callee (f := 10) rfl ?_); refine goesL_ (some 37) rfl rfl Try.func10 (by kernel_rfl) rfl #[.agg #[.int .i64 1900, .int .i64 1, .int .i64 2]] rfl (by (try simp only [List.map_toArray, List.map_cons, List.map_nil]); first | done | rfl) ?_; (with_reducible refine (date_Number.calls k 1900 1 2 t1150 t1151 _ A4.out).mono ?_); rintro e w7 ⟨rfl, hb⟩; refine ⟨_, rfl, ?_⟩; have n0_ := a0_ (bB_ (g := gb1149) (o := .cells #[.int .i64 a1_0, .int .i64 a1_1, .int .i64 a1_2] 23 (0, 0)) (by (with_reducible repeat first | apply bN_ | apply bD_ | apply bA_); exact BK1149.out) hb); have n1_ := a0_ (below_step (by repeat (first | (with_reducible first | exact HB.out | apply lA_ | apply lN_ | apply lD_ | refine lS_ ?_ GE1149.out) | exact HB.out)) hb); clear BK1149; clear HB; have BK1149 := n0_; have HB := n1_; clear n0_ n1_; (try clear hb); (try clear hb2); (try clear hk); (try clear hi)))
 (try simp only [Act.put, zA_, zB_, zC_])
 go_cut [49] (fun v49 wc => ∃ (kq : Nat) (x49_4 : Bool), v49 = .bool x49_4 ∧ Aside0 (stipendtop_WholeYears.j0 kq a0 a2 x49_4 a1_0 a1_1 a1_2 = some r) ∧ Aside0 (kq ≤ k) ∧ Aside0 (wc.heap[gb1149]? = some (.cells #[.int .i64 a1_0, .int .i64 a1_1, .int .i64 a1_2] 23 (0, 0))) ∧ Aside0 (Below w.heap.size w wc))
 case first =>
  have H := HC5.out
  clear HC5
  by_cases c8 : t1150 = 1
  ·rw [if_pos c8] at H
   have c8b0 : (t1150 == 1) = true := beq_iff_eq.mpr c8
   have c8b1 : (t1150 != 1) = false := bne_eq_false_iff_eq.mpr c8
   clear c8
   (first | rw [c8b0] | (simp only [i64_w, i32_w]; rw [c8b0]) | skip)
   by_cases c9 : t1151 = 0
   ·rw [if_pos c9] at H
    have c9b0 : (t1151 == 0) = true := beq_iff_eq.mpr c9
    have c9b1 : (t1151 != 0) = false := bne_eq_false_iff_eq.mpr c9
    clear c9
    replace H := oB_ H
    obtain ⟨t1152, A100, H⟩ := H
    replace H : (stipendtop_WholeYears.j0 k a0 a2 (t1152 != 52) a1_0 a1_1 a1_2) = some r := H
    have A10 := a0_ A100
    clear A100
    have H' := a0_ H
    clear H
    go_wp2_with (first | (go_at_call 11; (with_reducible refine (period_Nominal.calls 1 t1152 _ A10.out).mono ?_); rintro e w' ⟨rfl, ⟨nd, rfl⟩⟩))
    go_meet
    case rel => exact ⟨_, ((t1152 != 52)), (by first | rfl | (simp; done) | (simp [*]; done)), H', ⟨by first | omega | exact Nat.le_refl _⟩, ⟨by (with_reducible repeat first | apply bN_ | apply bD_ | apply bA_); exact BK1149.out⟩, ⟨by repeat (first | (with_reducible first | exact HB.out | apply lA_ | apply lN_ | apply lD_ | refine lS_ ?_ GE1149.out) | exact HB.out)⟩⟩
   ·rw [if_neg c9] at H
    have c9b0 : (t1151 == 0) = false := beq_eq_false_iff_ne.mpr c9
    have c9b1 : (t1151 != 0) = true := bne_iff_ne.mpr c9
    have H' := a0_ H
    clear H
    go_wp2
    go_meet
    case rel => exact ⟨_, (true), (by first | rfl | (simp; done) | (simp [*]; done)), H', ⟨by first | omega | exact Nat.le_refl _⟩, ⟨by (with_reducible repeat first | apply bN_ | apply bD_ | apply bA_); exact BK1149.out⟩, ⟨by repeat (first | (with_reducible first | exact HB.out | apply lA_ | apply lN_ | apply lD_ | refine lS_ ?_ GE1149.out) | exact HB.out)⟩⟩
  ·rw [if_neg c8] at H
   have c8b0 : (t1150 == 1) = false := beq_eq_false_iff_ne.mpr c8
   have c8b1 : (t1150 != 1) = true := bne_iff_ne.mpr c8
   (first | rw [c8b0] | (simp only [i64_w, i32_w]; rw [c8b0]) | skip)
   have H' := a0_ H
   clear H
   go_wp2
   go_meet
   case rel => exact ⟨_, (true), (by first | rfl | (simp; done) | (simp [*]; done)), H', ⟨by first | omega | exact Nat.le_refl _⟩, ⟨by (with_reducible repeat first | apply bN_ | apply bD_ | apply bA_); exact BK1149.out⟩, ⟨by repeat (first | (with_reducible first | exact HB.out | apply lA_ | apply lN_ | apply lD_ | refine lS_ ?_ GE1149.out) | exact HB.out)⟩⟩
 case rest =>
  clear HC5
  try clear c8
  try clear c8b0
  try clear c8b1
  try clear c9
  try clear c9b0
  try clear c9b1
  obtain ⟨kq, x49_4, rfl, HA, HJ4, BK1149, HB⟩ := hcut
  cases kq with
  | zero => exact absurd HA.out (by simp [stipendtop_WholeYears.j0])
  | succ kj4 =>
   have H := HA.out
   clear HA
   simp only [stipendtop_WholeYears.j0] at H
   by_cases c11 : x49_4 = true
   ·subst c11
    have H1 : (none) = some r := by rw [if_pos rfl] at H; exact H
    clear H
    have H := H1
    clear H1
    exact absurd H (by simp)
   ·replace c11 := Bool.eq_false_iff.mpr c11
    subst c11
    have H1 : (if a2 < 0 then (stipendtop_WholeYears.j1 kj4 a0 a2 true a1_0 a1_1 a1_2) else (stipendtop_WholeYears.j1 kj4 a0 a2 (decide (a2 > 4000)) a1_0 a1_1 a1_2)) = some r := by rw [if_neg (show ¬ (false = true) by decide)] at H; exact H
    clear H
    have H := H1
    clear H1
    have HC12 := a0_ H
    clear H
    go_upto_region 4 with (fail)
    go_cut [55] (fun v55 wc => ∃ (kq : Nat) (x55_11 : Bool), v55 = .bool x55_11 ∧ Aside0 (stipendtop_WholeYears.j1 kq a0 a2 x55_11 a1_0 a1_1 a1_2 = some r) ∧ Aside0 (kq ≤ kj4) ∧ Aside0 (wc.heap[gb1149]? = some (.cells #[.int .i64 a1_0, .int .i64 a1_1, .int .i64 a1_2] 23 (0, 0))) ∧ Aside0 (Below w.heap.size w wc))
    case first =>
     have H := HC12.out
     clear HC12
     by_cases c13 : a2 < 0
     ·rw [if_pos c13] at H
      have c13b0 : decide (a2 < 0) = true := decide_eq_true c13
      clear c13
      (first | rw [c13b0] | (simp only [i64_w, i32_w]; rw [c13b0]) | skip)
      have H' := a0_ H
      clear H
      go_wp2
      go_meet
      case rel => exact ⟨_, (true), (by first | rfl | (simp; done) | (simp [*]; done)), H', ⟨by have := HJ4.out; first | omega | exact Nat.le_refl _⟩, ⟨by (with_reducible repeat first | apply bN_ | apply bD_ | apply bA_); exact BK1149.out⟩, ⟨by repeat (first | (with_reducible first | exact HB.out | apply lA_ | apply lN_ | apply lD_ | refine lS_ ?_ GE1149.out) | exact HB.out)⟩⟩
     ·rw [if_neg c13] at H
      have c13b0 : decide (a2 < 0) = false := decide_eq_false c13
      clear c13
      (first | rw [c13b0] | (simp only [i64_w, i32_w]; rw [c13b0]) | skip)
      have H' := a0_ H
      clear H
      go_wp2
      go_meet
      case rel => exact ⟨_, (decide (a2 > 4000)), (by first | rfl | (simp; done) | (simp [*]; done)), H', ⟨by have := HJ4.out; first | omega | exact Nat.le_refl _⟩, ⟨by (with_reducible repeat first | apply bN_ | apply bD_ | apply bA_); exact BK1149.out⟩, ⟨by repeat (first | (with_reducible first | exact HB.out | apply lA_ | apply lN_ | apply lD_ | refine lS_ ?_ GE1149.out) | exact HB.out)⟩⟩
    case rest =>
     clear HC12
     try clear c8
     try clear c8b0
     try clear c8b1
     try clear c9
     try clear c9b0
     try clear c9b1
     try clear c11
     try clear c13
     try clear c13b0
     obtain ⟨kq, x55_11, rfl, HA, HJ11, BK1149, HB⟩ := hcut
     cases kq with
     | zero => exact absurd HA.out (by simp [stipendtop_WholeYears.j1])
     | succ kj11 =>
      have H := HA.out
      clear HA
      simp only [stipendtop_WholeYears.j1] at H
      by_cases c14 : x55_11 = true
      ·subst c14
       have H1 : (some true) = some r := by rw [if_pos rfl] at H; exact H
       clear H
       have H := H1
       clear H1
       obtain rfl := Option.some.inj H
       go_wp2
       go_ret
       exact ⟨by first | rfl | (simp [errW_none, errW_some] <;> rfl) | (simp [*, errW_none, errW_some] <;> rfl), by repeat (first | (with_reducible first | exact HB.out | apply lA_ | apply lN_ | apply lD_ | refine lS_ ?_ GE1149.out) | exact HB.out)⟩
      ·replace c14 := Bool.eq_false_iff.mpr c14
       subst c14
       have H1 : (if period_New.made a0 a1_0 a1_1 a1_2 = true then ((period_New_A.f kj11 a0 a1_0 a1_1 a1_2).bind fun bt1153 => ((date_Add.f kj11 a1_0 a1_1 a1_2 a2).bind fun bt1164 => (if bt1164.2.2.2 = 0 then (stipendtop_WholeYears.l0 kj11 0 bt1153.1 bt1153.2.1 bt1153.2.2.1 bt1153.2.2.2.1 bt1153.2.2.2.2.1 bt1153.2.2.2.2.2.1 bt1153.2.2.2.2.2.2.1 bt1153.2.2.2.2.2.2.2.1 bt1153.2.2.2.2.2.2.2.2.1 bt1164.1 bt1164.2.1 bt1164.2.2.1) else (some true)))) else ((period_New_B.f kj11 a0 a1_0 a1_1 a1_2).bind fun t1295 => (some true))) = some r := by rw [if_neg (show ¬ (false = true) by decide)] at H; exact H
       clear H
       have H := H1
       clear H1
       by_cases c15 : period_New.made a0 a1_0 a1_1 a1_2 = true
       ·rw [if_pos c15] at H
        have c15b0 : period_New.made a0 a1_0 a1_1 a1_2 = true := c15
        clear c15
        replace H := oB_ H
        obtain ⟨⟨t1153, t1154, t1155, t1156, t1157, t1158, t1159, t1160, t1161, t1163⟩, A160, H⟩ := H
        replace H : ((date_Add.f kj11 a1_0 a1_1 a1_2 a2).bind fun bt1164 => (if bt1164.2.2.2 = 0 then (stipendtop_WholeYears.l0 kj11 0 t1153 t1154 t1155 t1156 t1157 t1158 t1159 t1160 t1161 bt1164.1 bt1164.2.1 bt1164.2.2.1) else (some true))) = some r := H
        have A16 := a0_ A160
        clear A160
        replace H := oB_ H
        obtain ⟨⟨t1164, t1165, t1166, t1167⟩, A170, H⟩ := H
        replace H : (if t1167 = 0 then (stipendtop_WholeYears.l0 kj11 0 t1153 t1154 t1155 t1156 t1157 t1158 t1159 t1160 t1161 t1164 t1165 t1166) else (some true)) = some r := H
        have A17 := a0_ A170
        clear A170
        by_cases c18 : t1167 = 0
        ·rw [if_pos c18] at H
         have c18b0 : (t1167 == 0) = true := beq_iff_eq.mpr c18
         have c18b1 : (t1167 != 0) = false := bne_eq_false_iff_eq.mpr c18
         clear c18
         have H' := a0_ H
         clear H
         have hcz19_0 : wc.cell? ⟨gb1149, 0, none⟩ = some (.int .i64 a1_0) := (bC_ BK1149.out 0).trans rfl
         have hcz19_1 : wc.cell? ⟨gb1149, 1, none⟩ = some (.int .i64 a1_1) := (bC_ BK1149.out 1).trans rfl
         have hcz19_2 : wc.cell? ⟨gb1149, 2, none⟩ = some (.int .i64 a1_2) := (bC_ BK1149.out 2).trans rfl
         have hfz19_0 := bF_ BK1149.out 0
         have hfz19_1 := bF_ BK1149.out 1
         have hfz19_2 := bF_ BK1149.out 2
         go_wp2_with (first | ((with_reducible refine gate_callee (f := 12) rfl ?_); refine goesL_ (some 59) rfl rfl Try.func12 (by kernel_rfl) rfl #[.int .i64 a0, .agg #[.int .i64 a1_0, .int .i64 a1_1, .int .i64 a1_2]] rfl (by (try simp only [List.map_toArray, List.map_cons, List.map_nil]); first | done | rfl) ?_; (with_reducible refine (period_New_A.calls kj11 a0 a1_0 a1_1 a1_2 t1153 t1154 t1155 t1156 t1157 t1158 t1159 t1160 t1161 t1163 w _ ?side1 A16.out).mono ?_); (case side1 => repeat (first | (with_reducible first | exact HB.out | apply lA_ | apply lN_ | apply lD_ | refine lS_ ?_ GE1149.out) | exact HB.out)); rintro e w20 ⟨g1162, rfl, hi, hb, hb2, hge⟩; refine ⟨_, rfl, ?_⟩; have n0_ := a0_ (bB_ (g := gb1149) (o := .cells #[.int .i64 a1_0, .int .i64 a1_1, .int .i64 a1_2] 23 (0, 0)) (by (with_reducible repeat first | apply bN_ | apply bD_ | apply bA_); exact BK1149.out) hb2); have n1_ := a0_ (hb); have n2_ := a0_ (hi); have n3_ := a0_ (IsS62.ne_blk hi (bB_ (g := gb1149) (o := .cells #[.int .i64 a1_0, .int .i64 a1_1, .int .i64 a1_2] 23 (0, 0)) (by (with_reducible repeat first | apply bN_ | apply bD_ | apply bA_); exact BK1149.out) hb2) (by decide)); have n4_ := a0_ (Ne.symm (IsS62.ne_blk hi (bB_ (g := gb1149) (o := .cells #[.int .i64 a1_0, .int .i64 a1_1, .int .i64 a1_2] 23 (0, 0)) (by (with_reducible repeat first | apply bN_ | apply bD_ | apply bA_); exact BK1149.out) hb2) (by decide))); clear BK1149; clear HB; have BK1149 := n0_; have HB := n1_; have HI1162 := n2_; have NB1162_1149 := n3_; have NB1149_1162 := n4_; clear n0_ n1_ n2_ n3_ n4_; (try clear hb); (try clear hb2); (try clear hk); (try clear hi); have hnb21 := NB1149_1162.out; have hnc21 := NB1162_1149.out; have hcz22_0 : w20.cell? ⟨gb1149, 0, none⟩ = some (.int .i64 a1_0) := (bC_ BK1149.out 0).trans rfl; have hcz22_1 : w20.cell? ⟨gb1149, 1, none⟩ = some (.int .i64 a1_1) := (bC_ BK1149.out 1).trans rfl; have hcz22_2 : w20.cell? ⟨gb1149, 2, none⟩ = some (.int .i64 a1_2) := (bC_ BK1149.out 2).trans rfl; have hfz22_0 := bF_ BK1149.out 0; have hfz22_1 := bF_ BK1149.out 1; have hfz22_2 := bF_ BK1149.out 2) | ((with_reducible refine gate_callee (f := 13) rfl ?_); refine goesL_ (some 67) rfl rfl Try.func13 (by kernel_rfl) rfl #[.agg #[.int .i64 a1_0, .int .i64 a1_1, .int .i64 a1_2], .int .i64 a2] rfl (by (try simp only [List.map_toArray, List.map_cons, List.map_nil]); first | done | rfl) ?_; (with_reducible refine (date_Add.calls kj11 a1_0 a1_1 a1_2 a2 t1164 t1165 t1166 t1167 _ A17.out).mono ?_); rintro e w23 ⟨rfl, hb⟩; refine ⟨_, rfl, ?_⟩; have n0_ := a0_ (bB_ (g := gb1149) (o := .cells #[.int .i64 a1_0, .int .i64 a1_1, .int .i64 a1_2] 23 (0, 0)) (by (with_reducible repeat first | apply bN_ | apply bD_ | apply bA_); exact BK1149.out) hb); have n1_ := a0_ (IsS62.below (by repeat (first | (with_reducible first | exact HI1162.out | apply sA_ | apply sN_ | apply sD_ | refine sF_ ?_ NB1162_1149.out _) | exact HI1162.out)) hb); have n2_ := a0_ (below_step (by repeat (first | (with_reducible first | exact HB.out | apply lA_ | apply lN_ | apply lD_ | refine lS_ ?_ (sG_ HI1162.out) | refine lS_ ?_ GE1149.out) | exact HB.out)) hb); clear BK1149; clear HI1162; clear HB; have BK1149 := n0_; have HI1162 := n1_; have HB := n2_; clear n0_ n1_ n2_; (try clear hb); (try clear hb2); (try clear hk); (try clear hi)) | ((with_reducible refine gate_dst (N := 11) rfl ?_); refine box_event ?hg (N := 11) ?hd (cs := #[.int .i64 0, .int .i64 0, .int .i64 0]) (t := 23) ?hr ?_; (case hd => rfl); (case hg => rfl); (case hr => first | (go_simp; done) | (go_simp; rfl)); intro gb1168 hg w24 hbox hb; have n0_ := a0_ (bB_ (g := gb1149) (o := .cells #[.int .i64 a1_0, .int .i64 a1_1, .int .i64 a1_2] 23 (0, 0)) (by (with_reducible repeat first | apply bN_ | apply bD_ | apply bA_); exact BK1149.out) hb); have n1_ := a0_ (IsS62.below (by repeat (first | (with_reducible first | exact HI1162.out | apply sA_ | apply sN_ | apply sD_ | refine sF_ ?_ NB1162_1149.out _) | exact HI1162.out)) hb); have n2_ := a0_ (below_step (by repeat (first | (with_reducible first | exact HB.out | apply lA_ | apply lN_ | apply lD_ | refine lS_ ?_ (sG_ HI1162.out) | refine lS_ ?_ GE1149.out) | exact HB.out)) hb); have n3_ := a0_ (hbox); have n4_ := a0_ ((by rw [hg]; exact (below_size (by repeat (first | (with_reducible first | exact HB.out | apply lA_ | apply lN_ | apply lD_ | refine lS_ ?_ (sG_ HI1162.out) | refine lS_ ?_ GE1149.out) | exact HB.out))) : w.heap.size ≤ gb1168)); have n5_ := a0_ ((by rw [hg]; exact (below_size (by repeat (first | (with_reducible first | exact HB.out | apply lA_ | apply lN_ | apply lD_ | refine lS_ ?_ (sG_ HI1162.out) | refine lS_ ?_ GE1149.out) | exact HB.out))) : w.heap.size ≤ gb1168)); have n6_ := a0_ ((by rw [hg]; exact Nat.ne_of_lt (blk_lt (g := gb1149) (o := .cells #[.int .i64 a1_0, .int .i64 a1_1, .int .i64 a1_2] 23 (0, 0)) (by (with_reducible repeat first | apply bN_ | apply bD_ | apply bA_); exact BK1149.out)) : gb1149 ≠ gb1168)); have n7_ := a0_ ((by rw [hg]; exact Nat.ne_of_gt (blk_lt (g := gb1149) (o := .cells #[.int .i64 a1_0, .int .i64 a1_1, .int .i64 a1_2] 23 (0, 0)) (by (with_reducible repeat first | apply bN_ | apply bD_ | apply bA_); exact BK1149.out)) : gb1168 ≠ gb1149)); have n8_ := a0_ ((by rw [hg]; exact Nat.ne_of_lt (IsS62.lt (show IsS62 w _ g1162 t1153 t1154 t1155 t1156 t1157 t1158 t1159 t1160 t1161 from by repeat (first | (with_reducible first | exact HI1162.out | apply sA_ | apply sN_ | apply sD_ | refine sF_ ?_ NB1162_1149.out _) | exact HI1162.out))) : g1162 ≠ gb1168)); have n9_ := a0_ ((by rw [hg]; exact Nat.ne_of_gt (IsS62.lt (show IsS62 w _ g1162 t1153 t1154 t1155 t1156 t1157 t1158 t1159 t1160 t1161 from by repeat (first | (with_reducible first | exact HI1162.out | apply sA_ | apply sN_ | apply sD_ | refine sF_ ?_ NB1162_1149.out _) | exact HI1162.out))) : gb1168 ≠ g1162)); clear BK1149; clear HI1162; clear HB; have BK1149 := n0_; have HI1162 := n1_; have HB := n2_; have BK1168 := n3_; have GW1168 := n4_; have GE1168 := n5_; have NB1149_1168 := n6_; have NB1168_1149 := n7_; have NB1162_1168 := n8_; have NB1168_1162 := n9_; clear n0_ n1_ n2_ n3_ n4_ n5_ n6_ n7_ n8_ n9_; clear hb hbox hg; have hnb25 := NB1168_1149.out; have hnc25 := NB1149_1168.out; have hnb26 := NB1168_1162.out; have hnc26 := NB1162_1168.out; have hcz27_0 : w24.cell? ⟨gb1168, 0, none⟩ = some (.int .i64 0) := (bC_ BK1168.out 0).trans rfl; have hcz27_1 : w24.cell? ⟨gb1168, 1, none⟩ = some (.int .i64 0) := (bC_ BK1168.out 1).trans rfl; have hcz27_2 : w24.cell? ⟨gb1168, 2, none⟩ = some (.int .i64 0) := (bC_ BK1168.out 2).trans rfl; have hfz27_0 := bF_ BK1168.out 0; have hfz27_1 := bF_ BK1168.out 1; have hfz27_2 := bF_ BK1168.out 2))
         go_loopg [9, 72] kj11 (fun kq v9 v72 w' => ∃ (gy_ : Nat) (x72_3 : Int) (x1163000_3 : Int) (x1163001_3 : Int) (x1163002_3 : Int) (x1163003_3 : Int) (x1163004_3 : Int) (x1163005_3 : Int) (x1163006_3 : Int) (x1163007_3 : Int) (x1163008_3 : Int), v9 = .pointer (some ⟨gy_, 0, none⟩) ∧ v72 = .int .i64 x72_3 ∧ Aside0 (stipendtop_WholeYears.l0 kq x72_3 x1163000_3 x1163001_3 x1163002_3 x1163003_3 x1163004_3 x1163005_3 x1163006_3 x1163007_3 x1163008_3 t1164 t1165 t1166 = some r) ∧ Aside0 (kq ≤ kj11) ∧ Aside0 (w'.heap[gb1149]? = some (.cells #[.int .i64 a1_0, .int .i64 a1_1, .int .i64 a1_2] 23 (0, 0))) ∧ Aside0 (w'.heap[gb1168]? = some (.cells #[.int .i64 t1164, .int .i64 t1165, .int .i64 t1166] 23 (0, 0))) ∧ Aside0 (IsS62 w w' gy_ x1163000_3 x1163001_3 x1163002_3 x1163003_3 x1163004_3 x1163005_3 x1163006_3 x1163007_3 x1163008_3) ∧ Aside0 (Below w.heap.size w w'))
         case atStart => exact ⟨g1162, (0), (t1153), (t1154), (t1155), (t1156), (t1157), (t1158), (t1159), (t1160), (t1161), (by first | rfl | (simp; done) | (simp [*]; done)), (by first | rfl | (simp; done) | (simp [*]; done)), H', ⟨Nat.le_refl _⟩, ⟨by (with_reducible repeat first | apply bN_ | apply bD_ | apply bA_); refine blk_far ?_ NB1149_1168.out _; (with_reducible repeat first | apply bN_ | apply bD_ | apply bA_); refine blk_far ?_ NB1149_1168.out _; (with_reducible repeat first | apply bN_ | apply bD_ | apply bA_); refine blk_far ?_ NB1149_1168.out _; (with_reducible repeat first | apply bN_ | apply bD_ | apply bA_); exact BK1149.out⟩, ⟨by (with_reducible repeat first | apply bN_ | apply bD_ | apply bA_); refine blk_put (cs := #[.int .i64 t1164, .int .i64 t1165, .int .i64 0]) ?_ 2 _ rfl; (with_reducible repeat first | apply bN_ | apply bD_ | apply bA_); refine blk_put (cs := #[.int .i64 t1164, .int .i64 0, .int .i64 0]) ?_ 1 _ rfl; (with_reducible repeat first | apply bN_ | apply bD_ | apply bA_); refine blk_put (cs := #[.int .i64 0, .int .i64 0, .int .i64 0]) ?_ 0 _ rfl; (with_reducible repeat first | apply bN_ | apply bD_ | apply bA_); exact BK1168.out⟩, ⟨by repeat (first | (with_reducible first | exact HI1162.out | apply sA_ | apply sN_ | apply sD_ | refine sF_ ?_ NB1162_1149.out _ | refine sF_ ?_ NB1162_1168.out _) | exact HI1162.out)⟩, ⟨by repeat (first | (with_reducible first | exact HB.out | apply lA_ | apply lN_ | apply lD_ | refine lS_ ?_ (sG_ HI1162.out) | refine lS_ ?_ GE1149.out | refine lS_ ?_ GE1168.out) | exact HB.out)⟩⟩
         case round =>
          clear H'
          try clear c8
          try clear c8b0
          try clear c8b1
          try clear c9
          try clear c9b0
          try clear c9b1
          try clear c11
          try clear c13
          try clear c13b0
          try clear c14
          try clear c15
          try clear c15b0
          try clear c18
          try clear c18b0
          try clear c18b1
          try clear hcz19_0
          try clear hcz19_1
          try clear hcz19_2
          try clear hcz22_0
          try clear hcz22_1
          try clear hcz22_2
          try clear hcz27_0
          try clear hcz27_1
          try clear hcz27_2
          try clear hfz19_0
          try clear hfz19_1
          try clear hfz19_2
          try clear hfz22_0
          try clear hfz22_1
          try clear hfz22_2
          try clear hfz27_0
          try clear hfz27_1
          try clear hfz27_2
          obtain ⟨g1162, x72_3, x1163000_3, x1163001_3, x1163002_3, x1163003_3, x1163004_3, x1163005_3, x1163006_3, x1163007_3, x1163008_3, rfl, rfl, HA, HK3, BK1149, BK1168, HI1162, HB⟩ := hrel
          have NB1162_1149 := a0_ (IsS62.ne_blk HI1162.out BK1149.out (by decide))
          have NB1149_1162 := a0_ (Ne.symm NB1162_1149.out)
          have NB1162_1168 := a0_ (IsS62.ne_blk HI1162.out BK1168.out (by decide))
          have NB1168_1162 := a0_ (Ne.symm NB1162_1168.out)
          cases gk with
          | zero => exact absurd HA.out (by simp [stipendtop_WholeYears.l0])
          | succ k3 =>
           have H := HA.out
           clear HA
           simp only [stipendtop_WholeYears.l0] at H
           by_cases c28 : x72_3 < 12
           ·rw [if_pos c28] at H
            have c28b0 : decide (x72_3 < 12) = true := decide_eq_true c28
            clear c28
            replace H := oB_ H
            obtain ⟨⟨t1169, t1170, t1171, t1172, t1173, t1174, t1175, t1176, t1177, t1178, t1179⟩, A290, H⟩ := H
            replace H : (if t1170 = 0 then (stipendtop_WholeYears.l1 k3 t1169 0 1 t1171 t1172 t1173 t1174 t1175 t1176 t1177 t1178 t1179 t1164 t1165 t1166) else ((period_Year_End.f t1171 t1172 t1173 t1174 t1175 t1176 t1177 t1178 t1179).bind fun bt1234 => ((date_Between.f k3 bt1234.1 bt1234.2.1 bt1234.2.2.1 t1164 t1165 t1166).bind fun bt1246 => (if bt1246.1 ≤ 0 then (none) else (if period_Year_Next.made bt1234.2.2.2.1 bt1234.2.2.2.2.1 bt1234.2.2.2.2.2.1 bt1234.2.2.2.2.2.2.1 bt1234.2.2.2.2.2.2.2.1 bt1234.2.2.2.2.2.2.2.2.1 bt1234.2.2.2.2.2.2.2.2.2.1 bt1234.2.2.2.2.2.2.2.2.2.2.1 bt1234.2.2.2.2.2.2.2.2.2.2.2 = true then ((period_Year_Next_A.f k3 bt1234.2.2.2.1 bt1234.2.2.2.2.1 bt1234.2.2.2.2.2.1 bt1234.2.2.2.2.2.2.1 bt1234.2.2.2.2.2.2.2.1 bt1234.2.2.2.2.2.2.2.2.1 bt1234.2.2.2.2.2.2.2.2.2.1 bt1234.2.2.2.2.2.2.2.2.2.2.1 bt1234.2.2.2.2.2.2.2.2.2.2.2).bind fun bt1248 => ((period_Year_End.f bt1234.2.2.2.1 bt1234.2.2.2.2.1 bt1234.2.2.2.2.2.1 bt1234.2.2.2.2.2.2.1 bt1234.2.2.2.2.2.2.2.1 bt1234.2.2.2.2.2.2.2.2.1 bt1234.2.2.2.2.2.2.2.2.2.1 bt1234.2.2.2.2.2.2.2.2.2.2.1 bt1234.2.2.2.2.2.2.2.2.2.2.2).bind fun bt1259 => ((period_Year_Start.f bt1248.1 bt1248.2.1 bt1248.2.2.1 bt1248.2.2.2.1 bt1248.2.2.2.2.1 bt1248.2.2.2.2.2.1 bt1248.2.2.2.2.2.2.1 bt1248.2.2.2.2.2.2.2.1 bt1248.2.2.2.2.2.2.2.2.1).bind fun bt1271 => ((date_Between.f k3 bt1259.1 bt1259.2.1 bt1259.2.2.1 bt1271.1 bt1271.2.1 bt1271.2.2.1).bind fun bt1283 => (if bt1283.1 = 1 then (stipendtop_WholeYears.l0 k3 (wrap64 (x72_3 + 1)) bt1271.2.2.2.1 bt1271.2.2.2.2.1 bt1271.2.2.2.2.2.1 bt1271.2.2.2.2.2.2.1 bt1271.2.2.2.2.2.2.2.1 bt1271.2.2.2.2.2.2.2.2.1 bt1271.2.2.2.2.2.2.2.2.2.1 bt1271.2.2.2.2.2.2.2.2.2.2.1 bt1271.2.2.2.2.2.2.2.2.2.2.2 t1164 t1165 t1166) else (none)))))) else ((period_Year_Next_B.f k3 bt1234.2.2.2.1 bt1234.2.2.2.2.1 bt1234.2.2.2.2.2.1 bt1234.2.2.2.2.2.2.1 bt1234.2.2.2.2.2.2.2.1 bt1234.2.2.2.2.2.2.2.2.1 bt1234.2.2.2.2.2.2.2.2.2.1 bt1234.2.2.2.2.2.2.2.2.2.2.1 bt1234.2.2.2.2.2.2.2.2.2.2.2).bind fun bt1285 => (some (bt1285.1 == 30)))))))) = some r := H
            have A29 := a0_ A290
            clear A290
            by_cases c30 : t1170 = 0
            ·rw [if_pos c30] at H
             have c30b0 : (t1170 == 0) = true := beq_iff_eq.mpr c30
             have c30b1 : (t1170 != 0) = false := bne_eq_false_iff_eq.mpr c30
             clear c30
             have H' := a0_ H
             clear H
             have hnb31 := NB1168_1149.out
             have hnc31 := NB1149_1168.out
             have hnb32 := NB1168_1162.out
             have hnc32 := NB1162_1168.out
             have hcz33_0 : wr.cell? ⟨gb1168, 0, none⟩ = some (.int .i64 t1164) := (bC_ BK1168.out 0).trans rfl
             have hcz33_1 : wr.cell? ⟨gb1168, 1, none⟩ = some (.int .i64 t1165) := (bC_ BK1168.out 1).trans rfl
             have hcz33_2 : wr.cell? ⟨gb1168, 2, none⟩ = some (.int .i64 t1166) := (bC_ BK1168.out 2).trans rfl
             have hfz33_0 := bF_ BK1168.out 0
             have hfz33_1 := bF_ BK1168.out 1
             have hfz33_2 := bF_ BK1168.out 2
             go_wp2_with (first | ((with_reducible refine gate_callee (f := 14) rfl ?_); refine goesL_ (some 77) rfl rfl Try.func14 (by kernel_rfl) rfl #[.pointer (some ⟨g1162, 0, none⟩), .agg #[.int .i64 t1164, .int .i64 t1165, .int .i64 t1166]] rfl (by (try simp only [List.map_toArray, List.map_cons, List.map_nil]); first | done | rfl) ?_; (with_reducible refine (period_Year_Index.calls k3 g1162 x1163000_3 x1163001_3 x1163002_3 x1163003_3 x1163004_3 x1163005_3 x1163006_3 x1163007_3 x1163008_3 t1164 t1165 t1166 t1169 t1170 t1171 t1172 t1173 t1174 t1175 t1176 t1177 t1178 t1179 w _ ?side1 ?side2 A29.out).mono ?_); (case side1 => repeat (first | (with_reducible first | exact HI1162.out | apply sA_ | apply sN_ | apply sD_ | refine sF_ ?_ NB1162_1149.out _ | refine sF_ ?_ NB1162_1168.out _) | exact HI1162.out)); (case side2 => repeat (first | (with_reducible first | exact HB.out | apply lA_ | apply lN_ | apply lD_ | refine lS_ ?_ (sG_ HI1162.out) | refine lS_ ?_ GE1149.out | refine lS_ ?_ GE1168.out) | exact HB.out)); rintro e w34 ⟨rfl, hi, hb, hk⟩; refine ⟨_, rfl, ?_⟩; have n0_ := a0_ (KeepBut.blk hk (g' := gb1149) (o := .cells #[.int .i64 a1_0, .int .i64 a1_1, .int .i64 a1_2] 23 (0, 0)) (by (with_reducible repeat first | apply bN_ | apply bD_ | apply bA_); exact BK1149.out) NB1149_1162.out (by simp)); have n1_ := a0_ (KeepBut.blk hk (g' := gb1168) (o := .cells #[.int .i64 t1164, .int .i64 t1165, .int .i64 t1166] 23 (0, 0)) (by (with_reducible repeat first | apply bN_ | apply bD_ | apply bA_); exact BK1168.out) NB1168_1162.out (by simp)); have n2_ := a0_ (hb); have n3_ := a0_ (hi); clear BK1149; clear BK1168; clear HB; clear HI1162; have BK1149 := n0_; have BK1168 := n1_; have HB := n2_; have HI1162 := n3_; clear n0_ n1_ n2_ n3_; (try clear hb); (try clear hb2); (try clear hk); (try clear hi)))
             go_loopg [15, 16] k3 (fun kq v15 v16 w' => ∃ (x15_4 : Int) (x16_4 : Int) (x1163000_4 : Int) (x1163001_4 : Int) (x1163002_4 : Int) (x1163003_4 : Int) (x1163004_4 : Int) (x1163005_4 : Int) (x1163006_4 : Int) (x1163007_4 : Int) (x1163008_4 : Int), v15 = .int .i64 x15_4 ∧ v16 = .int .i64 x16_4 ∧ Aside0 (stipendtop_WholeYears.l1 kq t1169 x15_4 x16_4 x1163000_4 x1163001_4 x1163002_4 x1163003_4 x1163004_4 x1163005_4 x1163006_4 x1163007_4 x1163008_4 t1164 t1165 t1166 = some r) ∧ Aside0 (kq ≤ k3) ∧ Aside0 (w'.heap[gb1149]? = some (.cells #[.int .i64 a1_0, .int .i64 a1_1, .int .i64 a1_2] 23 (0, 0))) ∧ Aside0 (w'.heap[gb1168]? = some (.cells #[.int .i64 t1164, .int .i64 t1165, .int .i64 t1166] 23 (0, 0))) ∧ Aside0 (IsS62 w w' g1162 x1163000_4 x1163001_4 x1163002_4 x1163003_4 x1163004_4 x1163005_4 x1163006_4 x1163007_4 x1163008_4) ∧ Aside0 (Below w.heap.size w w'))
             case atStart => exact ⟨(0), (1), (t1171), (t1172), (t1173), (t1174), (t1175), (t1176), (t1177), (t1178), (t1179), (by first | rfl | (simp; done) | (simp [*]; done)), (by first | rfl | (simp; done) | (simp [*]; done)), H', ⟨Nat.le_refl _⟩, ⟨by (with_reducible repeat first | apply bN_ | apply bD_ | apply bA_); exact BK1149.out⟩, ⟨by (with_reducible repeat first | apply bN_ | apply bD_ | apply bA_); exact BK1168.out⟩, ⟨by repeat (first | (with_reducible first | exact HI1162.out | apply sA_ | apply sN_ | apply sD_ | refine sF_ ?_ NB1162_1149.out _ | refine sF_ ?_ NB1162_1168.out _) | exact HI1162.out)⟩, ⟨by repeat (first | (with_reducible first | exact HB.out | apply lA_ | apply lN_ | apply lD_ | refine lS_ ?_ (sG_ HI1162.out) | refine lS_ ?_ GE1149.out | refine lS_ ?_ GE1168.out) | exact HB.out)⟩⟩
             case round =>
              clear H'
              try clear c8
              try clear c8b0
              try clear c8b1
              try clear c9
              try clear c9b0
              try clear c9b1
              try clear c11
              try clear c13
              try clear c13b0
              try clear c14
              try clear c15
              try clear c15b0
              try clear c18
              try clear c18b0
              try clear c18b1
              try clear c28
              try clear c28b0
              try clear c30
              try clear c30b0
              try clear c30b1
              try clear hcz19_0
              try clear hcz19_1
              try clear hcz19_2
              try clear hcz22_0
              try clear hcz22_1
              try clear hcz22_2
              try clear hcz27_0
              try clear hcz27_1
              try clear hcz27_2
              try clear hcz33_0
              try clear hcz33_1
              try clear hcz33_2
              try clear hfz19_0
              try clear hfz19_1
              try clear hfz19_2
              try clear hfz22_0
              try clear hfz22_1
              try clear hfz22_2
              try clear hfz27_0
              try clear hfz27_1
              try clear hfz27_2
              try clear hfz33_0
              try clear hfz33_1
              try clear hfz33_2
              obtain ⟨x15_4, x16_4, x1163000_4, x1163001_4, x1163002_4, x1163003_4, x1163004_4, x1163005_4, x1163006_4, x1163007_4, x1163008_4, rfl, rfl, HA, HK4, BK1149, BK1168, HI1162, HB⟩ := hrel
              cases gk with
              | zero => exact absurd HA.out (by simp [stipendtop_WholeYears.l1])
              | succ k4 =>
               have H := HA.out
               clear HA
               simp only [stipendtop_WholeYears.l1] at H
               by_cases c35 : x16_4 < t1169
               ·rw [if_pos c35] at H
                have c35b0 : decide (x16_4 < t1169) = true := decide_eq_true c35
                clear c35
                replace H := oB_ H
                obtain ⟨⟨t1180, t1181, t1182, t1183, t1184, t1185, t1186, t1187, t1188, t1189, t1190, t1191, t1192, t1193, t1194, t1195⟩, A360, H⟩ := H
                replace H : ((date_Between.f k4 t1180 t1181 t1182 t1183 t1184 t1185).bind fun bt1198 => (stipendtop_WholeYears.l1 k4 t1169 (wrap64 (x15_4 + (wrap64 (bt1198.1 + 1)))) (wrap64 (x16_4 + 1)) t1187 t1188 t1189 t1190 t1191 t1192 t1193 t1194 t1195 t1164 t1165 t1166)) = some r := H
                have A36 := a0_ A360
                clear A360
                replace H := oB_ H
                obtain ⟨⟨t1198, t1199⟩, A370, H⟩ := H
                replace H : (stipendtop_WholeYears.l1 k4 t1169 (wrap64 (x15_4 + (wrap64 (t1198 + 1)))) (wrap64 (x16_4 + 1)) t1187 t1188 t1189 t1190 t1191 t1192 t1193 t1194 t1195 t1164 t1165 t1166) = some r := H
                have A37 := a0_ A370
                clear A370
                have H' := a0_ H
                clear H
                go_wp2_with (first | ((with_reducible refine gate_callee (f := 15) rfl ?_); refine goesL_ (some 90) rfl rfl Try.func15 (by kernel_rfl) rfl #[.pointer (some ⟨g1162, 0, none⟩), .int .i64 x16_4] rfl (by (try simp only [List.map_toArray, List.map_cons, List.map_nil]); first | done | rfl) ?_; (with_reducible refine (period_Year_Span.calls k4 g1162 x1163000_4 x1163001_4 x1163002_4 x1163003_4 x1163004_4 x1163005_4 x1163006_4 x1163007_4 x1163008_4 x16_4 t1180 t1181 t1182 t1183 t1184 t1185 t1186 t1187 t1188 t1189 t1190 t1191 t1192 t1193 t1194 t1195 w _ ?side1 ?side2 A36.out).mono ?_); (case side1 => repeat (first | (with_reducible first | exact HI1162.out | apply sA_ | apply sN_ | apply sD_ | refine sF_ ?_ NB1162_1149.out _ | refine sF_ ?_ NB1162_1168.out _) | exact HI1162.out)); (case side2 => repeat (first | (with_reducible first | exact HB.out | apply lA_ | apply lN_ | apply lD_ | refine lS_ ?_ (sG_ HI1162.out) | refine lS_ ?_ GE1149.out | refine lS_ ?_ GE1168.out) | exact HB.out)); rintro e w38 ⟨rfl, hi, hb, hk⟩; refine ⟨_, rfl, ?_⟩; have n0_ := a0_ (KeepBut.blk hk (g' := gb1149) (o := .cells #[.int .i64 a1_0, .int .i64 a1_1, .int .i64 a1_2] 23 (0, 0)) (by (with_reducible repeat first | apply bN_ | apply bD_ | apply bA_); exact BK1149.out) NB1149_1162.out (by simp)); have n1_ := a0_ (KeepBut.blk hk (g' := gb1168) (o := .cells #[.int .i64 t1164, .int .i64 t1165, .int .i64 t1166] 23 (0, 0)) (by (with_reducible repeat first | apply bN_ | apply bD_ | apply bA_); exact BK1168.out) NB1168_1162.out (by simp)); have n2_ := a0_ (hb); have n3_ := a0_ (hi); clear BK1149; clear BK1168; clear HB; clear HI1162; have BK1149 := n0_; have BK1168 := n1_; have HB := n2_; have HI1162 := n3_; clear n0_ n1_ n2_ n3_; (try clear hb); (try clear hb2); (try clear hk); (try clear hi)) | ((with_reducible refine gate_dst (N := 17) rfl ?_); refine box_event ?hg (N := 17) ?hd (cs := #[.int .i64 0, .int .i64 0, .int .i64 0]) (t := 23) ?hr ?_; (case hd => rfl); (case hg => rfl); (case hr => first | (go_simp; done) | (go_simp; rfl)); intro gb1196 hg w39 hbox hb; have n0_ := a0_ (bB_ (g := gb1149) (o := .cells #[.int .i64 a1_0, .int .i64 a1_1, .int .i64 a1_2] 23 (0, 0)) (by (with_reducible repeat first | apply bN_ | apply bD_ | apply bA_); exact BK1149.out) hb); have n1_ := a0_ (bB_ (g := gb1168) (o := .cells #[.int .i64 t1164, .int .i64 t1165, .int .i64 t1166] 23 (0, 0)) (by (with_reducible repeat first | apply bN_ | apply bD_ | apply bA_); exact BK1168.out) hb); have n2_ := a0_ (IsS62.below (by repeat (first | (with_reducible first | exact HI1162.out | apply sA_ | apply sN_ | apply sD_ | refine sF_ ?_ NB1162_1149.out _ | refine sF_ ?_ NB1162_1168.out _) | exact HI1162.out)) hb); have n3_ := a0_ (below_step (by repeat (first | (with_reducible first | exact HB.out | apply lA_ | apply lN_ | apply lD_ | refine lS_ ?_ (sG_ HI1162.out) | refine lS_ ?_ GE1149.out | refine lS_ ?_ GE1168.out) | exact HB.out)) hb); have n4_ := a0_ (hbox); have n5_ := a0_ ((by rw [hg]; exact (below_size (by repeat (first | (with_reducible first | exact HB.out | apply lA_ | apply lN_ | apply lD_ | refine lS_ ?_ (sG_ HI1162.out) | refine lS_ ?_ GE1149.out | refine lS_ ?_ GE1168.out) | exact HB.out))) : w.heap.size ≤ gb1196)); have n6_ := a0_ ((by rw [hg]; exact (below_size (by repeat (first | (with_reducible first | exact HB.out | apply lA_ | apply lN_ | apply lD_ | refine lS_ ?_ (sG_ HI1162.out) | refine lS_ ?_ GE1149.out | refine lS_ ?_ GE1168.out) | exact HB.out))) : w.heap.size ≤ gb1196)); have n7_ := a0_ ((by rw [hg]; exact Nat.ne_of_lt (blk_lt (g := gb1149) (o := .cells #[.int .i64 a1_0, .int .i64 a1_1, .int .i64 a1_2] 23 (0, 0)) (by (with_reducible repeat first | apply bN_ | apply bD_ | apply bA_); exact BK1149.out)) : gb1149 ≠ gb1196)); have n8_ := a0_ ((by rw [hg]; exact Nat.ne_of_gt (blk_lt (g := gb1149) (o := .cells #[.int .i64 a1_0, .int .i64 a1_1, .int .i64 a1_2] 23 (0, 0)) (by (with_reducible repeat first | apply bN_ | apply bD_ | apply bA_); exact BK1149.out)) : gb1196 ≠ gb1149)); have n9_ := a0_ ((by rw [hg]; exact Nat.ne_of_lt (blk_lt (g := gb1168) (o := .cells #[.int .i64 t1164, .int .i64 t1165, .int .i64 t1166] 23 (0, 0)) (by (with_reducible repeat first | apply bN_ | apply bD_ | apply bA_); exact BK1168.out)) : gb1168 ≠ gb1196)); have n10_ := a0_ ((by rw [hg]; exact Nat.ne_of_gt (blk_lt (g := gb1168) (o := .cells #[.int .i64 t1164, .int .i64 t1165, .int .i64 t1166] 23 (0, 0)) (by (with_reducible repeat first | apply bN_ | apply bD_ | apply bA_); exact BK1168.out)) : gb1196 ≠ gb1168)); have n11_ := a0_ ((by rw [hg]; exact Nat.ne_of_lt (IsS62.lt (show IsS62 w _ g1162 t1187 t1188 t1189 t1190 t1191 t1192 t1193 t1194 t1195 from by repeat (first | (with_reducible first | exact HI1162.out | apply sA_ | apply sN_ | apply sD_ | refine sF_ ?_ NB1162_1149.out _ | refine sF_ ?_ NB1162_1168.out _) | exact HI1162.out))) : g1162 ≠ gb1196)); have n12_ := a0_ ((by rw [hg]; exact Nat.ne_of_gt (IsS62.lt (show IsS62 w _ g1162 t1187 t1188 t1189 t1190 t1191 t1192 t1193 t1194 t1195 from by repeat (first | (with_reducible first | exact HI1162.out | apply sA_ | apply sN_ | apply sD_ | refine sF_ ?_ NB1162_1149.out _ | refine sF_ ?_ NB1162_1168.out _) | exact HI1162.out))) : gb1196 ≠ g1162)); clear BK1149; clear BK1168; clear HI1162; clear HB; have BK1149 := n0_; have BK1168 := n1_; have HI1162 := n2_; have HB := n3_; have BK1196 := n4_; have GW1196 := n5_; have GE1196 := n6_; have NB1149_1196 := n7_; have NB1196_1149 := n8_; have NB1168_1196 := n9_; have NB1196_1168 := n10_; have NB1162_1196 := n11_; have NB1196_1162 := n12_; clear n0_ n1_ n2_ n3_ n4_ n5_ n6_ n7_ n8_ n9_ n10_ n11_ n12_; clear hb hbox hg) | ((with_reducible refine gate_dst (N := 18) rfl ?_); refine box_event ?hg (N := 18) ?hd (cs := #[.int .i64 0, .int .i64 0, .int .i64 0]) (t := 23) ?hr ?_; (case hd => rfl); (case hg => rfl); (case hr => first | (go_simp; done) | (go_simp; rfl)); intro gb1197 hg w40 hbox hb; have n0_ := a0_ (bB_ (g := gb1149) (o := .cells #[.int .i64 a1_0, .int .i64 a1_1, .int .i64 a1_2] 23 (0, 0)) (by (with_reducible repeat first | apply bN_ | apply bD_ | apply bA_); exact BK1149.out) hb); have n1_ := a0_ (bB_ (g := gb1168) (o := .cells #[.int .i64 t1164, .int .i64 t1165, .int .i64 t1166] 23 (0, 0)) (by (with_reducible repeat first | apply bN_ | apply bD_ | apply bA_); exact BK1168.out) hb); have n2_ := a0_ (IsS62.below (by repeat (first | (with_reducible first | exact HI1162.out | apply sA_ | apply sN_ | apply sD_ | refine sF_ ?_ NB1162_1149.out _ | refine sF_ ?_ NB1162_1168.out _ | refine sF_ ?_ NB1162_1196.out _) | exact HI1162.out)) hb); have n3_ := a0_ (bB_ (g := gb1196) (o := .cells #[.int .i64 0, .int .i64 0, .int .i64 0] 23 (0, 0)) (by (with_reducible repeat first | apply bN_ | apply bD_ | apply bA_); exact BK1196.out) hb); have n4_ := a0_ (below_step (by repeat (first | (with_reducible first | exact HB.out | apply lA_ | apply lN_ | apply lD_ | refine lS_ ?_ (sG_ HI1162.out) | refine lS_ ?_ GE1149.out | refine lS_ ?_ GE1168.out | refine lS_ ?_ GE1196.out) | exact HB.out)) hb); have n5_ := a0_ (hbox); have n6_ := a0_ ((by rw [hg]; exact (below_size (by repeat (first | (with_reducible first | exact HB.out | apply lA_ | apply lN_ | apply lD_ | refine lS_ ?_ (sG_ HI1162.out) | refine lS_ ?_ GE1149.out | refine lS_ ?_ GE1168.out | refine lS_ ?_ GE1196.out) | exact HB.out))) : w.heap.size ≤ gb1197)); have n7_ := a0_ ((by rw [hg]; exact (below_size (by repeat (first | (with_reducible first | exact HB.out | apply lA_ | apply lN_ | apply lD_ | refine lS_ ?_ (sG_ HI1162.out) | refine lS_ ?_ GE1149.out | refine lS_ ?_ GE1168.out | refine lS_ ?_ GE1196.out) | exact HB.out))) : w.heap.size ≤ gb1197)); have n8_ := a0_ ((by rw [hg]; exact Nat.ne_of_lt (blk_lt (g := gb1149) (o := .cells #[.int .i64 a1_0, .int .i64 a1_1, .int .i64 a1_2] 23 (0, 0)) (by (with_reducible repeat first | apply bN_ | apply bD_ | apply bA_); exact BK1149.out)) : gb1149 ≠ gb1197)); have n9_ := a0_ ((by rw [hg]; exact Nat.ne_of_gt (blk_lt (g := gb1149) (o := .cells #[.int .i64 a1_0, .int .i64 a1_1, .int .i64 a1_2] 23 (0, 0)) (by (with_reducible repeat first | apply bN_ | apply bD_ | apply bA_); exact BK1149.out)) : gb1197 ≠ gb1149)); have n10_ := a0_ ((by rw [hg]; exact Nat.ne_of_lt (blk_lt (g := gb1168) (o := .cells #[.int .i64 t1164, .int .i64 t1165, .int .i64 t1166] 23 (0, 0)) (by (with_reducible repeat first | apply bN_ | apply bD_ | apply bA_); exact BK1168.out)) : gb1168 ≠ gb1197)); have n11_ := a0_ ((by rw [hg]; exact Nat.ne_of_gt (blk_lt (g := gb1168) (o := .cells #[.int .i64 t1164, .int .i64 t1165, .int .i64 t1166] 23 (0, 0)) (by (with_reducible repeat first | apply bN_ | apply bD_ | apply bA_); exact BK1168.out)) : gb1197 ≠ gb1168)); have n12_ := a0_ ((by rw [hg]; exact Nat.ne_of_lt (blk_lt (g := gb1196) (o := .cells #[.int .i64 0, .int .i64 0, .int .i64 0] 23 (0, 0)) (by (with_reducible repeat first | apply bN_ | apply bD_ | apply bA_); exact BK1196.out)) : gb1196 ≠ gb1197)); have n13_ := a0_ ((by rw [hg]; exact Nat.ne_of_gt (blk_lt (g := gb1196) (o := .cells #[.int .i64 0, .int .i64 0, .int .i64 0] 23 (0, 0)) (by (with_reducible repeat first | apply bN_ | apply bD_ | apply bA_); exact BK1196.out)) : gb1197 ≠ gb1196)); have n14_ := a0_ ((by rw [hg]; exact Nat.ne_of_lt (IsS62.lt (show IsS62 w _ g1162 t1187 t1188 t1189 t1190 t1191 t1192 t1193 t1194 t1195 from by repeat (first | (with_reducible first | exact HI1162.out | apply sA_ | apply sN_ | apply sD_ | refine sF_ ?_ NB1162_1149.out _ | refine sF_ ?_ NB1162_1168.out _ | refine sF_ ?_ NB1162_1196.out _) | exact HI1162.out))) : g1162 ≠ gb1197)); have n15_ := a0_ ((by rw [hg]; exact Nat.ne_of_gt (IsS62.lt (show IsS62 w _ g1162 t1187 t1188 t1189 t1190 t1191 t1192 t1193 t1194 t1195 from by repeat (first | (with_reducible first | exact HI1162.out | apply sA_ | apply sN_ | apply sD_ | refine sF_ ?_ NB1162_1149.out _ | refine sF_ ?_ NB1162_1168.out _ | refine sF_ ?_ NB1162_1196.out _) | exact HI1162.out))) : gb1197 ≠ g1162)); clear BK1149; clear BK1168; clear HI1162; clear BK1196; clear HB; have BK1149 := n0_; have BK1168 := n1_; have HI1162 := n2_; have BK1196 := n3_; have HB := n4_; have BK1197 := n5_; have GW1197 := n6_; have GE1197 := n7_; have NB1149_1197 := n8_; have NB1197_1149 := n9_; have NB1168_1197 := n10_; have NB1197_1168 := n11_; have NB1196_1197 := n12_; have NB1197_1196 := n13_; have NB1162_1197 := n14_; have NB1197_1162 := n15_; clear n0_ n1_ n2_ n3_ n4_ n5_ n6_ n7_ n8_ n9_ n10_ n11_ n12_ n13_ n14_ n15_; clear hb hbox hg; have hnb41 := NB1196_1149.out; have hnc41 := NB1149_1196.out; have hnb42 := NB1196_1168.out; have hnc42 := NB1168_1196.out; have hnb43 := NB1196_1197.out; have hnc43 := NB1197_1196.out; have hnb44 := NB1196_1162.out; have hnc44 := NB1162_1196.out; have hcz45_0 : w40.cell? ⟨gb1196, 0, none⟩ = some (.int .i64 0) := (bC_ BK1196.out 0).trans rfl; have hcz45_1 : w40.cell? ⟨gb1196, 1, none⟩ = some (.int .i64 0) := (bC_ BK1196.out 1).trans rfl; have hcz45_2 : w40.cell? ⟨gb1196, 2, none⟩ = some (.int .i64 0) := (bC_ BK1196.out 2).trans rfl; have hfz45_0 := bF_ BK1196.out 0; have hfz45_1 := bF_ BK1196.out 1; have hfz45_2 := bF_ BK1196.out 2; have hnb46 := NB1197_1149.out; have hnc46 := NB1149_1197.out; have hnb47 := NB1197_1168.out; have hnc47 := NB1168_1197.out; have hnb48 := NB1197_1162.out; have hnc48 := NB1162_1197.out; have hcz49_0 : w40.cell? ⟨gb1197, 0, none⟩ = some (.int .i64 0) := (bC_ BK1197.out 0).trans rfl; have hcz49_1 : w40.cell? ⟨gb1197, 1, none⟩ = some (.int .i64 0) := (bC_ BK1197.out 1).trans rfl; have hcz49_2 : w40.cell? ⟨gb1197, 2, none⟩ = some (.int .i64 0) := (bC_ BK1197.out 2).trans rfl; have hfz49_0 := bF_ BK1197.out 0; have hfz49_1 := bF_ BK1197.out 1; have hfz49_2 := bF_ BK1197.out 2) | ((with_reducible refine gate_callee (f := 16) rfl ?_); refine goesL_ (some 97) rfl rfl Try.func16 (by kernel_rfl) rfl #[.agg #[.int .i64 t1180, .int .i64 t1181, .int .i64 t1182], .agg #[.int .i64 t1183, .int .i64 t1184, .int .i64 t1185]] rfl (by (try simp only [List.map_toArray, List.map_cons, List.map_nil]); first | done | rfl) ?_; (with_reducible refine (date_Between.calls k4 t1180 t1181 t1182 t1183 t1184 t1185 t1198 t1199 _ A37.out).mono ?_); rintro e w50 ⟨rfl, hb⟩; refine ⟨_, rfl, ?_⟩; have n0_ := a0_ (bB_ (g := gb1149) (o := .cells #[.int .i64 a1_0, .int .i64 a1_1, .int .i64 a1_2] 23 (0, 0)) (by (with_reducible repeat first | apply bN_ | apply bD_ | apply bA_); refine blk_far ?_ NB1149_1197.out _; (with_reducible repeat first | apply bN_ | apply bD_ | apply bA_); refine blk_far ?_ NB1149_1197.out _; (with_reducible repeat first | apply bN_ | apply bD_ | apply bA_); refine blk_far ?_ NB1149_1197.out _; (with_reducible repeat first | apply bN_ | apply bD_ | apply bA_); refine blk_far ?_ NB1149_1196.out _; (with_reducible repeat first | apply bN_ | apply bD_ | apply bA_); refine blk_far ?_ NB1149_1196.out _; (with_reducible repeat first | apply bN_ | apply bD_ | apply bA_); refine blk_far ?_ NB1149_1196.out _; (with_reducible repeat first | apply bN_ | apply bD_ | apply bA_); exact BK1149.out) hb); have n1_ := a0_ (bB_ (g := gb1168) (o := .cells #[.int .i64 t1164, .int .i64 t1165, .int .i64 t1166] 23 (0, 0)) (by (with_reducible repeat first | apply bN_ | apply bD_ | apply bA_); refine blk_far ?_ NB1168_1197.out _; (with_reducible repeat first | apply bN_ | apply bD_ | apply bA_); refine blk_far ?_ NB1168_1197.out _; (with_reducible repeat first | apply bN_ | apply bD_ | apply bA_); refine blk_far ?_ NB1168_1197.out _; (with_reducible repeat first | apply bN_ | apply bD_ | apply bA_); refine blk_far ?_ NB1168_1196.out _; (with_reducible repeat first | apply bN_ | apply bD_ | apply bA_); refine blk_far ?_ NB1168_1196.out _; (with_reducible repeat first | apply bN_ | apply bD_ | apply bA_); refine blk_far ?_ NB1168_1196.out _; (with_reducible repeat first | apply bN_ | apply bD_ | apply bA_); exact BK1168.out) hb); have n2_ := a0_ (IsS62.below (show IsS62 w ((((((w40.setCell ⟨gb1196, 0, none⟩ (.int .i64 t1180)).setCell ⟨gb1196, 1, none⟩ (.int .i64 t1181)).setCell ⟨gb1196, 2, none⟩ (.int .i64 t1182)).setCell ⟨gb1197, 0, none⟩ (.int .i64 t1183)).setCell ⟨gb1197, 1, none⟩ (.int .i64 t1184)).setCell ⟨gb1197, 2, none⟩ (.int .i64 t1185)) g1162 t1187 t1188 t1189 t1190 t1191 t1192 t1193 t1194 t1195 from by repeat (first | (with_reducible first | exact HI1162.out | apply sA_ | apply sN_ | apply sD_ | refine sF_ ?_ NB1162_1149.out _ | refine sF_ ?_ NB1162_1168.out _ | refine sF_ ?_ NB1162_1196.out _ | refine sF_ ?_ NB1162_1197.out _) | exact HI1162.out)) hb); have n3_ := a0_ (bB_ (g := gb1196) (o := .cells #[.int .i64 t1180, .int .i64 t1181, .int .i64 t1182] 23 (0, 0)) (by (with_reducible repeat first | apply bN_ | apply bD_ | apply bA_); refine blk_far ?_ NB1196_1197.out _; (with_reducible repeat first | apply bN_ | apply bD_ | apply bA_); refine blk_far ?_ NB1196_1197.out _; (with_reducible repeat first | apply bN_ | apply bD_ | apply bA_); refine blk_far ?_ NB1196_1197.out _; (with_reducible repeat first | apply bN_ | apply bD_ | apply bA_); refine blk_put (cs := #[.int .i64 t1180, .int .i64 t1181, .int .i64 0]) ?_ 2 _ rfl; (with_reducible repeat first | apply bN_ | apply bD_ | apply bA_); refine blk_put (cs := #[.int .i64 t1180, .int .i64 0, .int .i64 0]) ?_ 1 _ rfl; (with_reducible repeat first | apply bN_ | apply bD_ | apply bA_); refine blk_put (cs := #[.int .i64 0, .int .i64 0, .int .i64 0]) ?_ 0 _ rfl; (with_reducible repeat first | apply bN_ | apply bD_ | apply bA_); exact BK1196.out) hb); have n4_ := a0_ (bB_ (g := gb1197) (o := .cells #[.int .i64 t1183, .int .i64 t1184, .int .i64 t1185] 23 (0, 0)) (by (with_reducible repeat first | apply bN_ | apply bD_ | apply bA_); refine blk_put (cs := #[.int .i64 t1183, .int .i64 t1184, .int .i64 0]) ?_ 2 _ rfl; (with_reducible repeat first | apply bN_ | apply bD_ | apply bA_); refine blk_put (cs := #[.int .i64 t1183, .int .i64 0, .int .i64 0]) ?_ 1 _ rfl; (with_reducible repeat first | apply bN_ | apply bD_ | apply bA_); refine blk_put (cs := #[.int .i64 0, .int .i64 0, .int .i64 0]) ?_ 0 _ rfl; (with_reducible repeat first | apply bN_ | apply bD_ | apply bA_); refine blk_far ?_ NB1197_1196.out _; (with_reducible repeat first | apply bN_ | apply bD_ | apply bA_); refine blk_far ?_ NB1197_1196.out _; (with_reducible repeat first | apply bN_ | apply bD_ | apply bA_); refine blk_far ?_ NB1197_1196.out _; (with_reducible repeat first | apply bN_ | apply bD_ | apply bA_); exact BK1197.out) hb); have n5_ := a0_ (below_step (by repeat (first | (with_reducible first | exact HB.out | apply lA_ | apply lN_ | apply lD_ | refine lS_ ?_ (sG_ HI1162.out) | refine lS_ ?_ GE1149.out | refine lS_ ?_ GE1168.out | refine lS_ ?_ GE1196.out | refine lS_ ?_ GE1197.out) | exact HB.out)) hb); clear BK1149; clear BK1168; clear HI1162; clear BK1196; clear BK1197; clear HB; have BK1149 := n0_; have BK1168 := n1_; have HI1162 := n2_; have BK1196 := n3_; have BK1197 := n4_; have HB := n5_; clear n0_ n1_ n2_ n3_ n4_ n5_; (try clear hb); (try clear hb2); (try clear hk); (try clear hi)))
                go_roundg k4
                case measure => have := HJ4.out; have := HJ11.out; have := HK3.out; have := HK4.out; omega
                case rel => exact ⟨(wrap64 (x15_4 + (wrap64 (t1198 + 1)))), (wrap64 (x16_4 + 1)), (t1187), (t1188), (t1189), (t1190), (t1191), (t1192), (t1193), (t1194), (t1195), (by first | rfl | (simp; done) | (simp [*]; done)), (by first | rfl | (simp; done) | (simp [*]; done)), H', ⟨by have := HJ4.out; have := HJ11.out; have := HK3.out; have := HK4.out; omega⟩, ⟨by (with_reducible repeat first | apply bN_ | apply bD_ | apply bA_); exact BK1149.out⟩, ⟨by (with_reducible repeat first | apply bN_ | apply bD_ | apply bA_); exact BK1168.out⟩, ⟨by repeat (first | (with_reducible first | exact HI1162.out | apply sA_ | apply sN_ | apply sD_ | refine sF_ ?_ NB1162_1149.out _ | refine sF_ ?_ NB1162_1168.out _ | refine sF_ ?_ NB1162_1196.out _ | refine sF_ ?_ NB1162_1197.out _) | exact HI1162.out)⟩, ⟨by repeat (first | (with_reducible first | exact HB.out | apply lA_ | apply lN_ | apply lD_ | refine lS_ ?_ (sG_ HI1162.out) | refine lS_ ?_ GE1149.out | refine lS_ ?_ GE1168.out | refine lS_ ?_ GE1196.out | refine lS_ ?_ GE1197.out) | exact HB.out)⟩⟩
               ·rw [if_neg c35] at H
                have c35b0 : decide (x16_4 < t1169) = false := decide_eq_false c35
                clear c35
                replace H := oB_ H
                obtain ⟨⟨t1200, t1201, t1202, t1203, t1204, t1205, t1206, t1207, t1208, t1209, t1210, t1211, t1212, t1213, t1214, t1215⟩, A510, H⟩ := H
                replace H : ((date_Between.f k4 t1200 t1201 t1202 t1164 t1165 t1166).bind fun bt1218 => ((period_Year_Start.f t1207 t1208 t1209 t1210 t1211 t1212 t1213 t1214 t1215).bind fun bt1220 => ((date_Between.f k4 bt1220.1 bt1220.2.1 bt1220.2.2.1 t1164 t1165 t1166).bind fun bt1232 => (if t1206 = 0 then (if bt1218.2 = 0 then (if bt1232.2 = 0 then (if (wrap64 (x15_4 + bt1218.1)) = bt1232.1 then (some (decide (bt1218.1 ≥ 0))) else (none)) else (none)) else (none)) else (none))))) = some r := H
                have A51 := a0_ A510
                clear A510
                replace H := oB_ H
                obtain ⟨⟨t1218, t1219⟩, A520, H⟩ := H
                replace H : ((period_Year_Start.f t1207 t1208 t1209 t1210 t1211 t1212 t1213 t1214 t1215).bind fun bt1220 => ((date_Between.f k4 bt1220.1 bt1220.2.1 bt1220.2.2.1 t1164 t1165 t1166).bind fun bt1232 => (if t1206 = 0 then (if t1219 = 0 then (if bt1232.2 = 0 then (if (wrap64 (x15_4 + t1218)) = bt1232.1 then (some (decide (t1218 ≥ 0))) else (none)) else (none)) else (none)) else (none)))) = some r := H
                have A52 := a0_ A520
                clear A520
                replace H := oB_ H
                obtain ⟨⟨t1220, t1221, t1222, t1223, t1224, t1225, t1226, t1227, t1228, t1229, t1230, t1231⟩, A530, H⟩ := H
                replace H : ((date_Between.f k4 t1220 t1221 t1222 t1164 t1165 t1166).bind fun bt1232 => (if t1206 = 0 then (if t1219 = 0 then (if bt1232.2 = 0 then (if (wrap64 (x15_4 + t1218)) = bt1232.1 then (some (decide (t1218 ≥ 0))) else (none)) else (none)) else (none)) else (none))) = some r := H
                have A53 := a0_ A530
                clear A530
                replace H := oB_ H
                obtain ⟨⟨t1232, t1233⟩, A540, H⟩ := H
                replace H : (if t1206 = 0 then (if t1219 = 0 then (if t1233 = 0 then (if (wrap64 (x15_4 + t1218)) = t1232 then (some (decide (t1218 ≥ 0))) else (none)) else (none)) else (none)) else (none)) = some r := H
                have A54 := a0_ A540
                clear A540
                by_cases c55 : t1206 = 0
                ·rw [if_pos c55] at H
                 have c55b0 : (t1206 == 0) = true := beq_iff_eq.mpr c55
                 have c55b1 : (t1206 != 0) = false := bne_eq_false_iff_eq.mpr c55
                 clear c55
                 by_cases c56 : t1219 = 0
                 ·rw [if_pos c56] at H
                  have c56b0 : (t1219 == 0) = true := beq_iff_eq.mpr c56
                  have c56b1 : (t1219 != 0) = false := bne_eq_false_iff_eq.mpr c56
                  clear c56
                  by_cases c57 : t1233 = 0
                  ·rw [if_pos c57] at H
                   have c57b0 : (t1233 == 0) = true := beq_iff_eq.mpr c57
                   have c57b1 : (t1233 != 0) = false := bne_eq_false_iff_eq.mpr c57
                   clear c57
                   by_cases c58 : (wrap64 (x15_4 + t1218)) = t1232
                   ·rw [if_pos c58] at H
                    have c58b0 : ((wrap64 (x15_4 + t1218)) == t1232) = true := beq_iff_eq.mpr c58
                    have c58b1 : ((wrap64 (x15_4 + t1218)) != t1232) = false := bne_eq_false_iff_eq.mpr c58
                    clear c58
                    obtain rfl := Option.some.inj H
                    try go_wp2_with (first | ((with_reducible refine gate_callee (f := 15) rfl ?_); refine goesL_ (some 107) rfl rfl Try.func15 (by kernel_rfl) rfl #[.pointer (some ⟨g1162, 0, none⟩), .int .i64 t1169] rfl (by (try simp only [List.map_toArray, List.map_cons, List.map_nil]); first | done | rfl) ?_; (with_reducible refine (period_Year_Span.calls k4 g1162 x1163000_4 x1163001_4 x1163002_4 x1163003_4 x1163004_4 x1163005_4 x1163006_4 x1163007_4 x1163008_4 t1169 t1200 t1201 t1202 t1203 t1204 t1205 t1206 t1207 t1208 t1209 t1210 t1211 t1212 t1213 t1214 t1215 w _ ?side1 ?side2 A51.out).mono ?_); (case side1 => repeat (first | (with_reducible first | exact HI1162.out | apply sA_ | apply sN_ | apply sD_ | refine sF_ ?_ NB1162_1149.out _ | refine sF_ ?_ NB1162_1168.out _) | exact HI1162.out)); (case side2 => repeat (first | (with_reducible first | exact HB.out | apply lA_ | apply lN_ | apply lD_ | refine lS_ ?_ (sG_ HI1162.out) | refine lS_ ?_ GE1149.out | refine lS_ ?_ GE1168.out) | exact HB.out)); rintro e w59 ⟨rfl, hi, hb, hk⟩; refine ⟨_, rfl, ?_⟩; have n0_ := a0_ (KeepBut.blk hk (g' := gb1149) (o := .cells #[.int .i64 a1_0, .int .i64 a1_1, .int .i64 a1_2] 23 (0, 0)) (by (with_reducible repeat first | apply bN_ | apply bD_ | apply bA_); exact BK1149.out) NB1149_1162.out (by simp)); have n1_ := a0_ (KeepBut.blk hk (g' := gb1168) (o := .cells #[.int .i64 t1164, .int .i64 t1165, .int .i64 t1166] 23 (0, 0)) (by (with_reducible repeat first | apply bN_ | apply bD_ | apply bA_); exact BK1168.out) NB1168_1162.out (by simp)); have n2_ := a0_ (hb); have n3_ := a0_ (hi); clear BK1149; clear BK1168; clear HB; clear HI1162; have BK1149 := n0_; have BK1168 := n1_; have HB := n2_; have HI1162 := n3_; clear n0_ n1_ n2_ n3_; (try clear hb); (try clear hb2); (try clear hk); (try clear hi)) | ((with_reducible refine gate_dst (N := 22) rfl ?_); refine box_event ?hg (N := 22) ?hd (cs := #[.int .i64 0, .int .i64 0, .int .i64 0]) (t := 23) ?hr ?_; (case hd => rfl); (case hg => rfl); (case hr => first | (go_simp; done) | (go_simp; rfl)); intro gb1216 hg w60 hbox hb; have n0_ := a0_ (bB_ (g := gb1149) (o := .cells #[.int .i64 a1_0, .int .i64 a1_1, .int .i64 a1_2] 23 (0, 0)) (by (with_reducible repeat first | apply bN_ | apply bD_ | apply bA_); exact BK1149.out) hb); have n1_ := a0_ (bB_ (g := gb1168) (o := .cells #[.int .i64 t1164, .int .i64 t1165, .int .i64 t1166] 23 (0, 0)) (by (with_reducible repeat first | apply bN_ | apply bD_ | apply bA_); exact BK1168.out) hb); have n2_ := a0_ (IsS62.below (by repeat (first | (with_reducible first | exact HI1162.out | apply sA_ | apply sN_ | apply sD_ | refine sF_ ?_ NB1162_1149.out _ | refine sF_ ?_ NB1162_1168.out _) | exact HI1162.out)) hb); have n3_ := a0_ (below_step (by repeat (first | (with_reducible first | exact HB.out | apply lA_ | apply lN_ | apply lD_ | refine lS_ ?_ (sG_ HI1162.out) | refine lS_ ?_ GE1149.out | refine lS_ ?_ GE1168.out) | exact HB.out)) hb); have n4_ := a0_ (hbox); have n5_ := a0_ ((by rw [hg]; exact (below_size (by repeat (first | (with_reducible first | exact HB.out | apply lA_ | apply lN_ | apply lD_ | refine lS_ ?_ (sG_ HI1162.out) | refine lS_ ?_ GE1149.out | refine lS_ ?_ GE1168.out) | exact HB.out))) : w.heap.size ≤ gb1216)); have n6_ := a0_ ((by rw [hg]; exact (below_size (by repeat (first | (with_reducible first | exact HB.out | apply lA_ | apply lN_ | apply lD_ | refine lS_ ?_ (sG_ HI1162.out) | refine lS_ ?_ GE1149.out | refine lS_ ?_ GE1168.out) | exact HB.out))) : w.heap.size ≤ gb1216)); have n7_ := a0_ ((by rw [hg]; exact Nat.ne_of_lt (blk_lt (g := gb1149) (o := .cells #[.int .i64 a1_0, .int .i64 a1_1, .int .i64 a1_2] 23 (0, 0)) (by (with_reducible repeat first | apply bN_ | apply bD_ | apply bA_); exact BK1149.out)) : gb1149 ≠ gb1216)); have n8_ := a0_ ((by rw [hg]; exact Nat.ne_of_gt (blk_lt (g := gb1149) (o := .cells #[.int .i64 a1_0, .int .i64 a1_1, .int .i64 a1_2] 23 (0, 0)) (by (with_reducible repeat first | apply bN_ | apply bD_ | apply bA_); exact BK1149.out)) : gb1216 ≠ gb1149)); have n9_ := a0_ ((by rw [hg]; exact Nat.ne_of_lt (blk_lt (g := gb1168) (o := .cells #[.int .i64 t1164, .int .i64 t1165, .int .i64 t1166] 23 (0, 0)) (by (with_reducible repeat first | apply bN_ | apply bD_ | apply bA_); exact BK1168.out)) : gb1168 ≠ gb1216)); have n10_ := a0_ ((by rw [hg]; exact Nat.ne_of_gt (blk_lt (g := gb1168) (o := .cells #[.int .i64 t1164, .int .i64 t1165, .int .i64 t1166] 23 (0, 0)) (by (with_reducible repeat first | apply bN_ | apply bD_ | apply bA_); exact BK1168.out)) : gb1216 ≠ gb1168)); have n11_ := a0_ ((by rw [hg]; exact Nat.ne_of_lt (IsS62.lt (show IsS62 w _ g1162 t1207 t1208 t1209 t1210 t1211 t1212 t1213 t1214 t1215 from by repeat (first | (with_reducible first | exact HI1162.out | apply sA_ | apply sN_ | apply sD_ | refine sF_ ?_ NB1162_1149.out _ | refine sF_ ?_ NB1162_1168.out _) | exact HI1162.out))) : g1162 ≠ gb1216)); have n12_ := a0_ ((by rw [hg]; exact Nat.ne_of_gt (IsS62.lt (show IsS62 w _ g1162 t1207 t1208 t1209 t1210 t1211 t1212 t1213 t1214 t1215 from by repeat (first | (with_reducible first | exact HI1162.out | apply sA_ | apply sN_ | apply sD_ | refine sF_ ?_ NB1162_1149.out _ | refine sF_ ?_ NB1162_1168.out _) | exact HI1162.out))) : gb1216 ≠ g1162)); clear BK1149; clear BK1168; clear HI1162; clear HB; have BK1149 := n0_; have BK1168 := n1_; have HI1162 := n2_; have HB := n3_; have BK1216 := n4_; have GW1216 := n5_; have GE1216 := n6_; have NB1149_1216 := n7_; have NB1216_1149 := n8_; have NB1168_1216 := n9_; have NB1216_1168 := n10_; have NB1162_1216 := n11_; have NB1216_1162 := n12_; clear n0_ n1_ n2_ n3_ n4_ n5_ n6_ n7_ n8_ n9_ n10_ n11_ n12_; clear hb hbox hg) | ((with_reducible refine gate_dst (N := 23) rfl ?_); refine box_event ?hg (N := 23) ?hd (cs := #[.int .i64 0, .int .i64 0, .int .i64 0]) (t := 23) ?hr ?_; (case hd => rfl); (case hg => rfl); (case hr => first | (go_simp; done) | (go_simp; rfl)); intro gb1217 hg w61 hbox hb; have n0_ := a0_ (bB_ (g := gb1149) (o := .cells #[.int .i64 a1_0, .int .i64 a1_1, .int .i64 a1_2] 23 (0, 0)) (by (with_reducible repeat first | apply bN_ | apply bD_ | apply bA_); exact BK1149.out) hb); have n1_ := a0_ (bB_ (g := gb1168) (o := .cells #[.int .i64 t1164, .int .i64 t1165, .int .i64 t1166] 23 (0, 0)) (by (with_reducible repeat first | apply bN_ | apply bD_ | apply bA_); exact BK1168.out) hb); have n2_ := a0_ (IsS62.below (by repeat (first | (with_reducible first | exact HI1162.out | apply sA_ | apply sN_ | apply sD_ | refine sF_ ?_ NB1162_1149.out _ | refine sF_ ?_ NB1162_1168.out _ | refine sF_ ?_ NB1162_1216.out _) | exact HI1162.out)) hb); have n3_ := a0_ (bB_ (g := gb1216) (o := .cells #[.int .i64 0, .int .i64 0, .int .i64 0] 23 (0, 0)) (by (with_reducible repeat first | apply bN_ | apply bD_ | apply bA_); exact BK1216.out) hb); have n4_ := a0_ (below_step (by repeat (first | (with_reducible first | exact HB.out | apply lA_ | apply lN_ | apply lD_ | refine lS_ ?_ (sG_ HI1162.out) | refine lS_ ?_ GE1149.out | refine lS_ ?_ GE1168.out | refine lS_ ?_ GE1216.out) | exact HB.out)) hb); have n5_ := a0_ (hbox); have n6_ := a0_ ((by rw [hg]; exact (below_size (by repeat (first | (with_reducible first | exact HB.out | apply lA_ | apply lN_ | apply lD_ | refine lS_ ?_ (sG_ HI1162.out) | refine lS_ ?_ GE1149.out | refine lS_ ?_ GE1168.out | refine lS_ ?_ GE1216.out) | exact HB.out))) : w.heap.size ≤ gb1217)); have n7_ := a0_ ((by rw [hg]; exact (below_size (by repeat (first | (with_reducible first | exact HB.out | apply lA_ | apply lN_ | apply lD_ | refine lS_ ?_ (sG_ HI1162.out) | refine lS_ ?_ GE1149.out | refine lS_ ?_ GE1168.out | refine lS_ ?_ GE1216.out) | exact HB.out))) : w.heap.size ≤ gb1217)); have n8_ := a0_ ((by rw [hg]; exact Nat.ne_of_lt (blk_lt (g := gb1149) (o := .cells #[.int .i64 a1_0, .int .i64 a1_1, .int .i64 a1_2] 23 (0, 0)) (by (with_reducible repeat first | apply bN_ | apply bD_ | apply bA_); exact BK1149.out)) : gb1149 ≠ gb1217)); have n9_ := a0_ ((by rw [hg]; exact Nat.ne_of_gt (blk_lt (g := gb1149) (o := .cells #[.int .i64 a1_0, .int .i64 a1_1, .int .i64 a1_2] 23 (0, 0)) (by (with_reducible repeat first | apply bN_ | apply bD_ | apply bA_); exact BK1149.out)) : gb1217 ≠ gb1149)); have n10_ := a0_ ((by rw [hg]; exact Nat.ne_of_lt (blk_lt (g := gb1168) (o := .cells #[.int .i64 t1164, .int .i64 t1165, .int .i64 t1166] 23 (0, 0)) (by (with_reducible repeat first | apply bN_ | apply bD_ | apply bA_); exact BK1168.out)) : gb1168 ≠ gb1217)); have n11_ := a0_ ((by rw [hg]; exact Nat.ne_of_gt (blk_lt (g := gb1168) (o := .cells #[.int .i64 t1164, .int .i64 t1165, .int .i64 t1166] 23 (0, 0)) (by (with_reducible repeat first | apply bN_ | apply bD_ | apply bA_); exact BK1168.out)) : gb1217 ≠ gb1168)); have n12_ := a0_ ((by rw [hg]; exact Nat.ne_of_lt (blk_lt (g := gb1216) (o := .cells #[.int .i64 0, .int .i64 0, .int .i64 0] 23 (0, 0)) (by (with_reducible repeat first | apply bN_ | apply bD_ | apply bA_); exact BK1216.out)) : gb1216 ≠ gb1217)); have n13_ := a0_ ((by rw [hg]; exact Nat.ne_of_gt (blk_lt (g := gb1216) (o := .cells #[.int .i64 0, .int .i64 0, .int .i64 0] 23 (0, 0)) (by (with_reducible repeat first | apply bN_ | apply bD_ | apply bA_); exact BK1216.out)) : gb1217 ≠ gb1216)); have n14_ := a0_ ((by rw [hg]; exact Nat.ne_of_lt (IsS62.lt (show IsS62 w _ g1162 t1207 t1208 t1209 t1210 t1211 t1212 t1213 t1214 t1215 from by repeat (first | (with_reducible first | exact HI1162.out | apply sA_ | apply sN_ | apply sD_ | refine sF_ ?_ NB1162_1149.out _ | refine sF_ ?_ NB1162_1168.out _ | refine sF_ ?_ NB1162_1216.out _) | exact HI1162.out))) : g1162 ≠ gb1217)); have n15_ := a0_ ((by rw [hg]; exact Nat.ne_of_gt (IsS62.lt (show IsS62 w _ g1162 t1207 t1208 t1209 t1210 t1211 t1212 t1213 t1214 t1215 from by repeat (first | (with_reducible first | exact HI1162.out | apply sA_ | apply sN_ | apply sD_ | refine sF_ ?_ NB1162_1149.out _ | refine sF_ ?_ NB1162_1168.out _ | refine sF_ ?_ NB1162_1216.out _) | exact HI1162.out))) : gb1217 ≠ g1162)); clear BK1149; clear BK1168; clear HI1162; clear BK1216; clear HB; have BK1149 := n0_; have BK1168 := n1_; have HI1162 := n2_; have BK1216 := n3_; have HB := n4_; have BK1217 := n5_; have GW1217 := n6_; have GE1217 := n7_; have NB1149_1217 := n8_; have NB1217_1149 := n9_; have NB1168_1217 := n10_; have NB1217_1168 := n11_; have NB1216_1217 := n12_; have NB1217_1216 := n13_; have NB1162_1217 := n14_; have NB1217_1162 := n15_; clear n0_ n1_ n2_ n3_ n4_ n5_ n6_ n7_ n8_ n9_ n10_ n11_ n12_ n13_ n14_ n15_; clear hb hbox hg; have hnb62 := NB1216_1149.out; have hnc62 := NB1149_1216.out; have hnb63 := NB1216_1168.out; have hnc63 := NB1168_1216.out; have hnb64 := NB1216_1217.out; have hnc64 := NB1217_1216.out; have hnb65 := NB1216_1162.out; have hnc65 := NB1162_1216.out; have hcz66_0 : w61.cell? ⟨gb1216, 0, none⟩ = some (.int .i64 0) := (bC_ BK1216.out 0).trans rfl; have hcz66_1 : w61.cell? ⟨gb1216, 1, none⟩ = some (.int .i64 0) := (bC_ BK1216.out 1).trans rfl; have hcz66_2 : w61.cell? ⟨gb1216, 2, none⟩ = some (.int .i64 0) := (bC_ BK1216.out 2).trans rfl; have hfz66_0 := bF_ BK1216.out 0; have hfz66_1 := bF_ BK1216.out 1; have hfz66_2 := bF_ BK1216.out 2; have hnb67 := NB1217_1149.out; have hnc67 := NB1149_1217.out; have hnb68 := NB1217_1168.out; have hnc68 := NB1168_1217.out; have hnb69 := NB1217_1162.out; have hnc69 := NB1162_1217.out; have hcz70_0 : w61.cell? ⟨gb1217, 0, none⟩ = some (.int .i64 0) := (bC_ BK1217.out 0).trans rfl; have hcz70_1 : w61.cell? ⟨gb1217, 1, none⟩ = some (.int .i64 0) := (bC_ BK1217.out 1).trans rfl; have hcz70_2 : w61.cell? ⟨gb1217, 2, none⟩ = some (.int .i64 0) := (bC_ BK1217.out 2).trans rfl; have hfz70_0 := bF_ BK1217.out 0; have hfz70_1 := bF_ BK1217.out 1; have hfz70_2 := bF_ BK1217.out 2; have hnb71 := NB1168_1149.out; have hnc71 := NB1149_1168.out; have hnb72 := NB1168_1162.out; have hnc72 := NB1162_1168.out; have hcz73_0 : w61.cell? ⟨gb1168, 0, none⟩ = some (.int .i64 t1164) := (bC_ BK1168.out 0).trans rfl; have hcz73_1 : w61.cell? ⟨gb1168, 1, none⟩ = some (.int .i64 t1165) := (bC_ BK1168.out 1).trans rfl; have hcz73_2 : w61.cell? ⟨gb1168, 2, none⟩ = some (.int .i64 t1166) := (bC_ BK1168.out 2).trans rfl; have hfz73_0 := bF_ BK1168.out 0; have hfz73_1 := bF_ BK1168.out 1; have hfz73_2 := bF_ BK1168.out 2) | ((with_reducible refine gate_callee (f := 16) rfl ?_); refine goesL_ (some 114) rfl rfl Try.func16 (by kernel_rfl) rfl #[.agg #[.int .i64 t1200, .int .i64 t1201, .int .i64 t1202], .agg #[.int .i64 t1164, .int .i64 t1165, .int .i64 t1166]] rfl (by (try simp only [List.map_toArray, List.map_cons, List.map_nil]); first | done | rfl) ?_; (with_reducible refine (date_Between.calls k4 t1200 t1201 t1202 t1164 t1165 t1166 t1218 t1219 _ A52.out).mono ?_); rintro e w74 ⟨rfl, hb⟩; refine ⟨_, rfl, ?_⟩; have n0_ := a0_ (bB_ (g := gb1149) (o := .cells #[.int .i64 a1_0, .int .i64 a1_1, .int .i64 a1_2] 23 (0, 0)) (by (with_reducible repeat first | apply bN_ | apply bD_ | apply bA_); refine blk_far ?_ NB1149_1217.out _; (with_reducible repeat first | apply bN_ | apply bD_ | apply bA_); refine blk_far ?_ NB1149_1217.out _; (with_reducible repeat first | apply bN_ | apply bD_ | apply bA_); refine blk_far ?_ NB1149_1217.out _; (with_reducible repeat first | apply bN_ | apply bD_ | apply bA_); refine blk_far ?_ NB1149_1216.out _; (with_reducible repeat first | apply bN_ | apply bD_ | apply bA_); refine blk_far ?_ NB1149_1216.out _; (with_reducible repeat first | apply bN_ | apply bD_ | apply bA_); refine blk_far ?_ NB1149_1216.out _; (with_reducible repeat first | apply bN_ | apply bD_ | apply bA_); exact BK1149.out) hb); have n1_ := a0_ (bB_ (g := gb1168) (o := .cells #[.int .i64 t1164, .int .i64 t1165, .int .i64 t1166] 23 (0, 0)) (by (with_reducible repeat first | apply bN_ | apply bD_ | apply bA_); refine blk_far ?_ NB1168_1217.out _; (with_reducible repeat first | apply bN_ | apply bD_ | apply bA_); refine blk_far ?_ NB1168_1217.out _; (with_reducible repeat first | apply bN_ | apply bD_ | apply bA_); refine blk_far ?_ NB1168_1217.out _; (with_reducible repeat first | apply bN_ | apply bD_ | apply bA_); refine blk_far ?_ NB1168_1216.out _; (with_reducible repeat first | apply bN_ | apply bD_ | apply bA_); refine blk_far ?_ NB1168_1216.out _; (with_reducible repeat first | apply bN_ | apply bD_ | apply bA_); refine blk_far ?_ NB1168_1216.out _; (with_reducible repeat first | apply bN_ | apply bD_ | apply bA_); exact BK1168.out) hb); have n2_ := a0_ (IsS62.below (show IsS62 w ((((((w61.setCell ⟨gb1216, 0, none⟩ (.int .i64 t1200)).setCell ⟨gb1216, 1, none⟩ (.int .i64 t1201)).setCell ⟨gb1216, 2, none⟩ (.int .i64 t1202)).setCell ⟨gb1217, 0, none⟩ (.int .i64 t1203)).setCell ⟨gb1217, 1, none⟩ (.int .i64 t1204)).setCell ⟨gb1217, 2, none⟩ (.int .i64 t1205)) g1162 t1207 t1208 t1209 t1210 t1211 t1212 t1213 t1214 t1215 from by repeat (first | (with_reducible first | exact HI1162.out | apply sA_ | apply sN_ | apply sD_ | refine sF_ ?_ NB1162_1149.out _ | refine sF_ ?_ NB1162_1168.out _ | refine sF_ ?_ NB1162_1216.out _ | refine sF_ ?_ NB1162_1217.out _) | exact HI1162.out)) hb); have n3_ := a0_ (bB_ (g := gb1216) (o := .cells #[.int .i64 t1200, .int .i64 t1201, .int .i64 t1202] 23 (0, 0)) (by (with_reducible repeat first | apply bN_ | apply bD_ | apply bA_); refine blk_far ?_ NB1216_1217.out _; (with_reducible repeat first | apply bN_ | apply bD_ | apply bA_); refine blk_far ?_ NB1216_1217.out _; (with_reducible repeat first | apply bN_ | apply bD_ | apply bA_); refine blk_far ?_ NB1216_1217.out _; (with_reducible repeat first | apply bN_ | apply bD_ | apply bA_); refine blk_put (cs := #[.int .i64 t1200, .int .i64 t1201, .int .i64 0]) ?_ 2 _ rfl; (with_reducible repeat first | apply bN_ | apply bD_ | apply bA_); refine blk_put (cs := #[.int .i64 t1200, .int .i64 0, .int .i64 0]) ?_ 1 _ rfl; (with_reducible repeat first | apply bN_ | apply bD_ | apply bA_); refine blk_put (cs := #[.int .i64 0, .int .i64 0, .int .i64 0]) ?_ 0 _ rfl; (with_reducible repeat first | apply bN_ | apply bD_ | apply bA_); exact BK1216.out) hb); have n4_ := a0_ (bB_ (g := gb1217) (o := .cells #[.int .i64 t1203, .int .i64 t1204, .int .i64 t1205] 23 (0, 0)) (by (with_reducible repeat first | apply bN_ | apply bD_ | apply bA_); refine blk_put (cs := #[.int .i64 t1203, .int .i64 t1204, .int .i64 0]) ?_ 2 _ rfl; (with_reducible repeat first | apply bN_ | apply bD_ | apply bA_); refine blk_put (cs := #[.int .i64 t1203, .int .i64 0, .int .i64 0]) ?_ 1 _ rfl; (with_reducible repeat first | apply bN_ | apply bD_ | apply bA_); refine blk_put (cs := #[.int .i64 0, .int .i64 0, .int .i64 0]) ?_ 0 _ rfl; (with_reducible repeat first | apply bN_ | apply bD_ | apply bA_); refine blk_far ?_ NB1217_1216.out _; (with_reducible repeat first | apply bN_ | apply bD_ | apply bA_); refine blk_far ?_ NB1217_1216.out _; (with_reducible repeat first | apply bN_ | apply bD_ | apply bA_); refine blk_far ?_ NB1217_1216.out _; (with_reducible repeat first | apply bN_ | apply bD_ | apply bA_); exact BK1217.out) hb); have n5_ := a0_ (below_step (by repeat (first | (with_reducible first | exact HB.out | apply lA_ | apply lN_ | apply lD_ | refine lS_ ?_ (sG_ HI1162.out) | refine lS_ ?_ GE1149.out | refine lS_ ?_ GE1168.out | refine lS_ ?_ GE1216.out | refine lS_ ?_ GE1217.out) | exact HB.out)) hb); clear BK1149; clear BK1168; clear HI1162; clear BK1216; clear BK1217; clear HB; have BK1149 := n0_; have BK1168 := n1_; have HI1162 := n2_; have BK1216 := n3_; have BK1217 := n4_; have HB := n5_; clear n0_ n1_ n2_ n3_ n4_ n5_; (try clear hb); (try clear hb2); (try clear hk); (try clear hi)))
                    have n0_ := a0_ (bD_ BK1149.out)
                    have n1_ := a0_ (bD_ BK1168.out)
                    have n2_ := a0_ (bD_ BK1216.out)
                    have n3_ := a0_ (bD_ BK1217.out)
                    have n4_ := a0_ (sD_ HI1162.out)
                    have n5_ := a0_ (lD_ HB.out)
                    clear BK1149
                    clear BK1168
                    clear BK1216
                    clear BK1217
                    clear HI1162
                    clear HB
                    have BK1149 := n0_
                    have BK1168 := n1_
                    have BK1216 := n2_
                    have BK1217 := n3_
                    have HI1162 := n4_
                    have HB := n5_
                    clear n0_ n1_ n2_ n3_ n4_ n5_
                    refine start_ (n := 9) (S := fun w' => w'.cell? ⟨gb1168, 0, none⟩ = some (.int .i64 t1164) ∧ w'.cell? ⟨gb1168, 1, none⟩ = some (.int .i64 t1165) ∧ w'.cell? ⟨gb1168, 2, none⟩ = some (.int .i64 t1166)) (ds := []) #[false, false, false, false, false, false, false, false, false] (by kernel_rfl) rfl rfl ⟨(bC_ BK1168.out 0).trans rfl, (bC_ BK1168.out 1).trans rfl, (bC_ BK1168.out 2).trans rfl⟩ (fun hHeld => ?_); refine with_tabW stipendtop_WholeYears.tab25 stipendtop_WholeYears.bits25 (fun HT_ HW_ => ?_)
                    generalize w74.drew = w75 at BK1149 BK1168 BK1216 BK1217 HI1162 HB hHeld ⊢
                    refine pure_ (i := 0) (N := some 118) (v := ?_) (a' := ?_) #[true, false, false, false, false, false, false, false, false] rfl rfl (any_of HT_.out (by kernel_rfl)) (fun _ _ _ h => h) (Or.inl ⟨by rfl, ?_⟩) ?_ ?_
                    rotate_left
                    ·intro w'
                     go_simp
                     with_reducible rfl
                    rotate_left
                    ·simp only [Act.put, zA_, zB_, zC_, i64_w, i32_w]
                     rfl
                    refine take_ (i := 2) (N := some 120) (v := ?_) (a' := ?_) #[true, false, true, false, false, false, false, false, false] rfl rfl (take_ofW HT_.out HW_.out (by kernel_rfl)) (fun _ _ _ h => h) (Or.inl ⟨by rfl, ?_⟩) hHeld ?_ ?_
                    rotate_left
                    ·rintro w' ⟨s0, s1, s2⟩
                     go_simp
                     with_reducible rfl
                    rotate_left
                    ·simp only [Act.put, zA_, zB_, zC_, i64_w, i32_w]
                     rfl
                    refine one_ (i := 1) (N := some 119) #[true, true, true, false, false, false, false, false, false] rfl rfl (one_of HT_.out (by kernel_rfl)) (by decide) (fun K hK => ?_)
                    refine goes_ Try.func17 (by kernel_rfl) rfl #[.pointer (some ⟨g1162, 0, none⟩)] (by rfl) rfl rfl (by (try simp only [List.map_toArray, List.map_cons, List.map_nil]); first | done | rfl) ?_
                    with_reducible refine (period_Year_Start.calls g1162 t1207 t1208 t1209 t1210 t1211 t1212 t1213 t1214 t1215 t1220 t1221 t1222 t1223 t1224 t1225 t1226 t1227 t1228 t1229 t1230 t1231 w _ ?side1 ?side2 A53.out).mono ?_
                    (case side1 => repeat (first | (with_reducible first | exact HI1162.out | apply sA_ | apply sN_ | apply sD_ | refine sF_ ?_ NB1162_1149.out _ | refine sF_ ?_ NB1162_1168.out _ | refine sF_ ?_ NB1162_1216.out _ | refine sF_ ?_ NB1162_1217.out _) | exact HI1162.out))
                    (case side2 => repeat (first | (with_reducible first | exact HB.out | apply lA_ | apply lN_ | apply lD_ | refine lS_ ?_ (sG_ HI1162.out) | refine lS_ ?_ GE1149.out | refine lS_ ?_ GE1168.out | refine lS_ ?_ GE1216.out | refine lS_ ?_ GE1217.out) | exact HB.out))
                    rintro e w76 ⟨rfl, hi, hb, hk⟩
                    refine ⟨_, rfl, ?_⟩
                    have n0_ := a0_ (KeepBut.blk hk (g' := gb1149) (o := .cells #[.int .i64 a1_0, .int .i64 a1_1, .int .i64 a1_2] 23 (0, 0)) (by (with_reducible repeat first | apply bN_ | apply bD_ | apply bA_); exact BK1149.out) NB1149_1162.out (by simp))
                    have n1_ := a0_ (KeepBut.blk hk (g' := gb1168) (o := .cells #[.int .i64 t1164, .int .i64 t1165, .int .i64 t1166] 23 (0, 0)) (by (with_reducible repeat first | apply bN_ | apply bD_ | apply bA_); exact BK1168.out) NB1168_1162.out (by simp))
                    have n2_ := a0_ (KeepBut.blk hk (g' := gb1216) (o := .cells #[.int .i64 t1200, .int .i64 t1201, .int .i64 t1202] 23 (0, 0)) (by (with_reducible repeat first | apply bN_ | apply bD_ | apply bA_); exact BK1216.out) NB1216_1162.out (by simp))
                    have n3_ := a0_ (KeepBut.blk hk (g' := gb1217) (o := .cells #[.int .i64 t1203, .int .i64 t1204, .int .i64 t1205] 23 (0, 0)) (by (with_reducible repeat first | apply bN_ | apply bD_ | apply bA_); exact BK1217.out) NB1217_1162.out (by simp))
                    have n4_ := a0_ (hb)
                    have n5_ := a0_ (hi)
                    clear BK1149
                    clear BK1168
                    clear BK1216
                    clear BK1217
                    clear HB
                    clear HI1162
                    have BK1149 := n0_
                    have BK1168 := n1_
                    have BK1216 := n2_
                    have BK1217 := n3_
                    have HB := n4_
                    have HI1162 := n5_
                    clear n0_ n1_ n2_ n3_ n4_ n5_
                    (try clear hb)
                    (try clear hb2)
                    (try clear hk)
                    (try clear hi)
                    refine hK.out _ _ ⟨(bC_ BK1168.out 0).trans rfl, (bC_ BK1168.out 1).trans rfl, (bC_ BK1168.out 2).trans rfl⟩ (fun hHeld => ?_)
                    clear hK K
                    refine norm_ (a' := ?_) ?_ ?_
                    rotate_left
                    ·show Act.put _ (some 119) _ = _
                     simp only [Act.put, zA_, zB_, zC_, i64_w, i32_w]
                     rfl
                    refine one_ (i := 3) (N := some 121) #[true, true, true, true, false, false, false, false, false] rfl rfl (one_of HT_.out (by kernel_rfl)) (by decide) (fun K hK => ?_)
                    refine goes_ Try.func16 (by kernel_rfl) rfl #[.agg #[.int .i64 t1220, .int .i64 t1221, .int .i64 t1222], .agg #[.int .i64 t1164, .int .i64 t1165, .int .i64 t1166]] (by rfl) rfl rfl (by (try simp only [List.map_toArray, List.map_cons, List.map_nil]); first | done | rfl) ?_
                    with_reducible refine (date_Between.calls k4 t1220 t1221 t1222 t1164 t1165 t1166 t1232 t1233 _ A54.out).mono ?_
                    rintro e w77 ⟨rfl, hb⟩
                    refine ⟨_, rfl, ?_⟩
                    have n0_ := a0_ (bB_ (g := gb1149) (o := .cells #[.int .i64 a1_0, .int .i64 a1_1, .int .i64 a1_2] 23 (0, 0)) (by (with_reducible repeat first | apply bN_ | apply bD_ | apply bA_); exact BK1149.out) hb)
                    have n1_ := a0_ (bB_ (g := gb1168) (o := .cells #[.int .i64 t1164, .int .i64 t1165, .int .i64 t1166] 23 (0, 0)) (by (with_reducible repeat first | apply bN_ | apply bD_ | apply bA_); exact BK1168.out) hb)
                    have n2_ := a0_ (IsS62.below (by repeat (first | (with_reducible first | exact HI1162.out | apply sA_ | apply sN_ | apply sD_ | refine sF_ ?_ NB1162_1149.out _ | refine sF_ ?_ NB1162_1168.out _ | refine sF_ ?_ NB1162_1216.out _ | refine sF_ ?_ NB1162_1217.out _) | exact HI1162.out)) hb)
                    have n3_ := a0_ (bB_ (g := gb1216) (o := .cells #[.int .i64 t1200, .int .i64 t1201, .int .i64 t1202] 23 (0, 0)) (by (with_reducible repeat first | apply bN_ | apply bD_ | apply bA_); exact BK1216.out) hb)
                    have n4_ := a0_ (bB_ (g := gb1217) (o := .cells #[.int .i64 t1203, .int .i64 t1204, .int .i64 t1205] 23 (0, 0)) (by (with_reducible repeat first | apply bN_ | apply bD_ | apply bA_); exact BK1217.out) hb)
                    have n5_ := a0_ (below_step (by repeat (first | (with_reducible first | exact HB.out | apply lA_ | apply lN_ | apply lD_ | refine lS_ ?_ (sG_ HI1162.out) | refine lS_ ?_ GE1149.out | refine lS_ ?_ GE1168.out | refine lS_ ?_ GE1216.out | refine lS_ ?_ GE1217.out) | exact HB.out)) hb)
                    clear BK1149
                    clear BK1168
                    clear HI1162
                    clear BK1216
                    clear BK1217
                    clear HB
                    have BK1149 := n0_
                    have BK1168 := n1_
                    have HI1162 := n2_
                    have BK1216 := n3_
                    have BK1217 := n4_
                    have HB := n5_
                    clear n0_ n1_ n2_ n3_ n4_ n5_
                    (try clear hb)
                    (try clear hb2)
                    (try clear hk)
                    (try clear hi)
                    refine hK.out _ _ ⟨(bC_ BK1168.out 0).trans rfl, (bC_ BK1168.out 1).trans rfl, (bC_ BK1168.out 2).trans rfl⟩ (fun hHeld => ?_)
                    clear hK K
                    refine norm_ (a' := ?_) ?_ ?_
                    rotate_left
                    ·show Act.put _ (some 121) _ = _
                     simp only [Act.put, zA_, zB_, zC_, i64_w, i32_w]
                     rfl
                    refine pure_ (i := 4) (N := some 117) (v := ?_) (a' := ?_) #[true, true, true, true, true, false, false, false, false] rfl rfl (any_of HT_.out (by kernel_rfl)) (fun _ _ _ h => h) (Or.inl ⟨by rfl, ?_⟩) ?_ ?_
                    rotate_left
                    ·intro w'
                     go_simp
                     with_reducible rfl
                    rotate_left
                    ·simp only [Act.put, zA_, zB_, zC_, i64_w, i32_w]
                     rfl
                    refine pure_ (i := 5) (N := some 122) (v := ?_) (a' := ?_) #[true, true, true, true, true, true, false, false, false] rfl rfl (any_of HT_.out (by kernel_rfl)) (fun _ _ _ h => h) (Or.inl ⟨by rfl, ?_⟩) ?_ ?_
                    rotate_left
                    ·intro w'
                     go_simp
                     with_reducible rfl
                    rotate_left
                    ·simp only [Act.put, zA_, zB_, zC_, i64_w, i32_w]
                     rfl
                    refine pure_ (i := 6) (N := some 123) (v := ?_) (a' := ?_) #[true, true, true, true, true, true, true, false, false] rfl rfl (any_of HT_.out (by kernel_rfl)) (fun _ _ _ h => h) (Or.inl ⟨by rfl, ?_⟩) ?_ ?_
                    rotate_left
                    ·intro w'
                     go_simp
                     with_reducible rfl
                    rotate_left
                    ·simp only [Act.put, zA_, zB_, zC_, i64_w, i32_w]
                     rfl
                    refine pure_ (i := 7) (N := some 27) (v := ?_) (a' := ?_) #[true, true, true, true, true, true, true, true, false] rfl rfl (any_of HT_.out (by kernel_rfl)) (fun _ _ _ h => h) (Or.inl ⟨by rfl, ?_⟩) ?_ ?_
                    rotate_left
                    ·intro w'
                     go_simp
                     with_reducible rfl
                    rotate_left
                    ·simp only [Act.put, zA_, zB_, zC_, i64_w, i32_w]
                     rfl
                    refine pure_ (i := 8) (N := some 28) (v := ?_) (a' := ?_) #[true, true, true, true, true, true, true, true, true] rfl rfl (any_of HT_.out (by kernel_rfl)) (fun _ _ _ h => h) (Or.inl ⟨by rfl, ?_⟩) ?_ ?_
                    rotate_left
                    ·intro w'
                     go_simp
                     with_reducible rfl
                    rotate_left
                    ·simp only [Act.put, zA_, zB_, zC_, i64_w, i32_w]
                     rfl
                    refine done_ (done_of HT_.out (by kernel_rfl)) ?_
                    try go_wp2
                    go_ret
                    exact ⟨by first | rfl | (simp [errW_none, errW_some] <;> rfl) | (simp [*, errW_none, errW_some] <;> rfl), by repeat (first | (with_reducible first | exact HB.out | apply lA_ | apply lN_ | apply lD_ | refine lS_ ?_ (sG_ HI1162.out) | refine lS_ ?_ GE1149.out | refine lS_ ?_ GE1168.out | refine lS_ ?_ GE1216.out | refine lS_ ?_ GE1217.out) | exact HB.out)⟩
                   ·rw [if_neg c58] at H
                    exact absurd H (by simp)
                  ·rw [if_neg c57] at H
                   exact absurd H (by simp)
                 ·rw [if_neg c56] at H
                  exact absurd H (by simp)
                ·rw [if_neg c55] at H
                 exact absurd H (by simp)
            ·rw [if_neg c30] at H
             have c30b0 : (t1170 == 0) = false := beq_eq_false_iff_ne.mpr c30
             have c30b1 : (t1170 != 0) = true := bne_iff_ne.mpr c30
             replace H := oB_ H
             obtain ⟨⟨t1234, t1235, t1236, t1237, t1238, t1239, t1240, t1241, t1242, t1243, t1244, t1245⟩, A780, H⟩ := H
             replace H : ((date_Between.f k3 t1234 t1235 t1236 t1164 t1165 t1166).bind fun bt1246 => (if bt1246.1 ≤ 0 then (none) else (if period_Year_Next.made t1237 t1238 t1239 t1240 t1241 t1242 t1243 t1244 t1245 = true then ((period_Year_Next_A.f k3 t1237 t1238 t1239 t1240 t1241 t1242 t1243 t1244 t1245).bind fun bt1248 => ((period_Year_End.f t1237 t1238 t1239 t1240 t1241 t1242 t1243 t1244 t1245).bind fun bt1259 => ((period_Year_Start.f bt1248.1 bt1248.2.1 bt1248.2.2.1 bt1248.2.2.2.1 bt1248.2.2.2.2.1 bt1248.2.2.2.2.2.1 bt1248.2.2.2.2.2.2.1 bt1248.2.2.2.2.2.2.2.1 bt1248.2.2.2.2.2.2.2.2.1).bind fun bt1271 => ((date_Between.f k3 bt1259.1 bt1259.2.1 bt1259.2.2.1 bt1271.1 bt1271.2.1 bt1271.2.2.1).bind fun bt1283 => (if bt1283.1 = 1 then (stipendtop_WholeYears.l0 k3 (wrap64 (x72_3 + 1)) bt1271.2.2.2.1 bt1271.2.2.2.2.1 bt1271.2.2.2.2.2.1 bt1271.2.2.2.2.2.2.1 bt1271.2.2.2.2.2.2.2.1 bt1271.2.2.2.2.2.2.2.2.1 bt1271.2.2.2.2.2.2.2.2.2.1 bt1271.2.2.2.2.2.2.2.2.2.2.1 bt1271.2.2.2.2.2.2.2.2.2.2.2 t1164 t1165 t1166) else (none)))))) else ((period_Year_Next_B.f k3 t1237 t1238 t1239 t1240 t1241 t1242 t1243 t1244 t1245).bind fun bt1285 => (some (bt1285.1 == 30)))))) = some r := H
             have A78 := a0_ A780
             clear A780
             replace H := oB_ H
             obtain ⟨⟨t1246, t1247⟩, A790, H⟩ := H
             replace H : (if t1246 ≤ 0 then (none) else (if period_Year_Next.made t1237 t1238 t1239 t1240 t1241 t1242 t1243 t1244 t1245 = true then ((period_Year_Next_A.f k3 t1237 t1238 t1239 t1240 t1241 t1242 t1243 t1244 t1245).bind fun bt1248 => ((period_Year_End.f t1237 t1238 t1239 t1240 t1241 t1242 t1243 t1244 t1245).bind fun bt1259 => ((period_Year_Start.f bt1248.1 bt1248.2.1 bt1248.2.2.1 bt1248.2.2.2.1 bt1248.2.2.2.2.1 bt1248.2.2.2.2.2.1 bt1248.2.2.2.2.2.2.1 bt1248.2.2.2.2.2.2.2.1 bt1248.2.2.2.2.2.2.2.2.1).bind fun bt1271 => ((date_Between.f k3 bt1259.1 bt1259.2.1 bt1259.2.2.1 bt1271.1 bt1271.2.1 bt1271.2.2.1).bind fun bt1283 => (if bt1283.1 = 1 then (stipendtop_WholeYears.l0 k3 (wrap64 (x72_3 + 1)) bt1271.2.2.2.1 bt1271.2.2.2.2.1 bt1271.2.2.2.2.2.1 bt1271.2.2.2.2.2.2.1 bt1271.2.2.2.2.2.2.2.1 bt1271.2.2.2.2.2.2.2.2.1 bt1271.2.2.2.2.2.2.2.2.2.1 bt1271.2.2.2.2.2.2.2.2.2.2.1 bt1271.2.2.2.2.2.2.2.2.2.2.2 t1164 t1165 t1166) else (none)))))) else ((period_Year_Next_B.f k3 t1237 t1238 t1239 t1240 t1241 t1242 t1243 t1244 t1245).bind fun bt1285 => (some (bt1285.1 == 30))))) = some r := H
             have A79 := a0_ A790
             clear A790
             by_cases c80 : t1246 ≤ 0
             ·rw [if_pos c80] at H
              exact absurd H (by simp)
             ·rw [if_neg c80] at H
              have c80b0 : decide (t1246 ≤ 0) = false := decide_eq_false c80
              clear c80
              by_cases c81 : period_Year_Next.made t1237 t1238 t1239 t1240 t1241 t1242 t1243 t1244 t1245 = true
              ·rw [if_pos c81] at H
               have c81b0 : period_Year_Next.made t1237 t1238 t1239 t1240 t1241 t1242 t1243 t1244 t1245 = true := c81
               clear c81
               replace H := oB_ H
               obtain ⟨⟨t1248, t1249, t1250, t1251, t1252, t1253, t1254, t1255, t1256, t1258⟩, A820, H⟩ := H
               replace H : ((period_Year_End.f t1237 t1238 t1239 t1240 t1241 t1242 t1243 t1244 t1245).bind fun bt1259 => ((period_Year_Start.f t1248 t1249 t1250 t1251 t1252 t1253 t1254 t1255 t1256).bind fun bt1271 => ((date_Between.f k3 bt1259.1 bt1259.2.1 bt1259.2.2.1 bt1271.1 bt1271.2.1 bt1271.2.2.1).bind fun bt1283 => (if bt1283.1 = 1 then (stipendtop_WholeYears.l0 k3 (wrap64 (x72_3 + 1)) bt1271.2.2.2.1 bt1271.2.2.2.2.1 bt1271.2.2.2.2.2.1 bt1271.2.2.2.2.2.2.1 bt1271.2.2.2.2.2.2.2.1 bt1271.2.2.2.2.2.2.2.2.1 bt1271.2.2.2.2.2.2.2.2.2.1 bt1271.2.2.2.2.2.2.2.2.2.2.1 bt1271.2.2.2.2.2.2.2.2.2.2.2 t1164 t1165 t1166) else (none))))) = some r := H
               have A82 := a0_ A820
               clear A820
               replace H := oB_ H
               obtain ⟨⟨t1259, t1260, t1261, t1262, t1263, t1264, t1265, t1266, t1267, t1268, t1269, t1270⟩, A830, H⟩ := H
               replace H : ((period_Year_Start.f t1248 t1249 t1250 t1251 t1252 t1253 t1254 t1255 t1256).bind fun bt1271 => ((date_Between.f k3 t1259 t1260 t1261 bt1271.1 bt1271.2.1 bt1271.2.2.1).bind fun bt1283 => (if bt1283.1 = 1 then (stipendtop_WholeYears.l0 k3 (wrap64 (x72_3 + 1)) bt1271.2.2.2.1 bt1271.2.2.2.2.1 bt1271.2.2.2.2.2.1 bt1271.2.2.2.2.2.2.1 bt1271.2.2.2.2.2.2.2.1 bt1271.2.2.2.2.2.2.2.2.1 bt1271.2.2.2.2.2.2.2.2.2.1 bt1271.2.2.2.2.2.2.2.2.2.2.1 bt1271.2.2.2.2.2.2.2.2.2.2.2 t1164 t1165 t1166) else (none)))) = some r := H
               have A83 := a0_ A830
               clear A830
               replace H := oB_ H
               obtain ⟨⟨t1271, t1272, t1273, t1274, t1275, t1276, t1277, t1278, t1279, t1280, t1281, t1282⟩, A840, H⟩ := H
               replace H : ((date_Between.f k3 t1259 t1260 t1261 t1271 t1272 t1273).bind fun bt1283 => (if bt1283.1 = 1 then (stipendtop_WholeYears.l0 k3 (wrap64 (x72_3 + 1)) t1274 t1275 t1276 t1277 t1278 t1279 t1280 t1281 t1282 t1164 t1165 t1166) else (none))) = some r := H
               have A84 := a0_ A840
               clear A840
               replace H := oB_ H
               obtain ⟨⟨t1283, t1284⟩, A850, H⟩ := H
               replace H : (if t1283 = 1 then (stipendtop_WholeYears.l0 k3 (wrap64 (x72_3 + 1)) t1274 t1275 t1276 t1277 t1278 t1279 t1280 t1281 t1282 t1164 t1165 t1166) else (none)) = some r := H
               have A85 := a0_ A850
               clear A850
               by_cases c86 : t1283 = 1
               ·rw [if_pos c86] at H
                have c86b0 : (t1283 == 1) = true := beq_iff_eq.mpr c86
                have c86b1 : (t1283 != 1) = false := bne_eq_false_iff_eq.mpr c86
                clear c86
                have H' := a0_ H
                clear H
                have hnb87 := NB1168_1149.out
                have hnc87 := NB1149_1168.out
                have hnb88 := NB1168_1162.out
                have hnc88 := NB1162_1168.out
                have hcz89_0 : wr.cell? ⟨gb1168, 0, none⟩ = some (.int .i64 t1164) := (bC_ BK1168.out 0).trans rfl
                have hcz89_1 : wr.cell? ⟨gb1168, 1, none⟩ = some (.int .i64 t1165) := (bC_ BK1168.out 1).trans rfl
                have hcz89_2 : wr.cell? ⟨gb1168, 2, none⟩ = some (.int .i64 t1166) := (bC_ BK1168.out 2).trans rfl
                have hfz89_0 := bF_ BK1168.out 0
                have hfz89_1 := bF_ BK1168.out 1
                have hfz89_2 := bF_ BK1168.out 2
                try go_wp2_with (first | ((with_reducible refine gate_callee (f := 14) rfl ?_); refine goesL_ (some 77) rfl rfl Try.func14 (by kernel_rfl) rfl #[.pointer (some ⟨g1162, 0, none⟩), .agg #[.int .i64 t1164, .int .i64 t1165, .int .i64 t1166]] rfl (by (try simp only [List.map_toArray, List.map_cons, List.map_nil]); first | done | rfl) ?_; (with_reducible refine (period_Year_Index.calls k3 g1162 x1163000_3 x1163001_3 x1163002_3 x1163003_3 x1163004_3 x1163005_3 x1163006_3 x1163007_3 x1163008_3 t1164 t1165 t1166 t1169 t1170 t1171 t1172 t1173 t1174 t1175 t1176 t1177 t1178 t1179 w _ ?side1 ?side2 A29.out).mono ?_); (case side1 => repeat (first | (with_reducible first | exact HI1162.out | apply sA_ | apply sN_ | apply sD_ | refine sF_ ?_ NB1162_1149.out _ | refine sF_ ?_ NB1162_1168.out _) | exact HI1162.out)); (case side2 => repeat (first | (with_reducible first | exact HB.out | apply lA_ | apply lN_ | apply lD_ | refine lS_ ?_ (sG_ HI1162.out) | refine lS_ ?_ GE1149.out | refine lS_ ?_ GE1168.out) | exact HB.out)); rintro e w90 ⟨rfl, hi, hb, hk⟩; refine ⟨_, rfl, ?_⟩; have n0_ := a0_ (KeepBut.blk hk (g' := gb1149) (o := .cells #[.int .i64 a1_0, .int .i64 a1_1, .int .i64 a1_2] 23 (0, 0)) (by (with_reducible repeat first | apply bN_ | apply bD_ | apply bA_); exact BK1149.out) NB1149_1162.out (by simp)); have n1_ := a0_ (KeepBut.blk hk (g' := gb1168) (o := .cells #[.int .i64 t1164, .int .i64 t1165, .int .i64 t1166] 23 (0, 0)) (by (with_reducible repeat first | apply bN_ | apply bD_ | apply bA_); exact BK1168.out) NB1168_1162.out (by simp)); have n2_ := a0_ (hb); have n3_ := a0_ (hi); clear BK1149; clear BK1168; clear HB; clear HI1162; have BK1149 := n0_; have BK1168 := n1_; have HB := n2_; have HI1162 := n3_; clear n0_ n1_ n2_ n3_; (try clear hb); (try clear hb2); (try clear hk); (try clear hi)))
                have n0_ := a0_ (bD_ BK1149.out)
                have n1_ := a0_ (bD_ BK1168.out)
                have n2_ := a0_ (sD_ HI1162.out)
                have n3_ := a0_ (lD_ HB.out)
                clear BK1149
                clear BK1168
                clear HI1162
                clear HB
                have BK1149 := n0_
                have BK1168 := n1_
                have HI1162 := n2_
                have HB := n3_
                clear n0_ n1_ n2_ n3_
                refine start_ (n := 9) (S := fun w' => w'.cell? ⟨gb1168, 0, none⟩ = some (.int .i64 t1164) ∧ w'.cell? ⟨gb1168, 1, none⟩ = some (.int .i64 t1165) ∧ w'.cell? ⟨gb1168, 2, none⟩ = some (.int .i64 t1166)) (ds := []) #[false, false, false, false, false, false, false, false, false] (by kernel_rfl) rfl rfl ⟨(bC_ BK1168.out 0).trans rfl, (bC_ BK1168.out 1).trans rfl, (bC_ BK1168.out 2).trans rfl⟩ (fun hHeld => ?_); refine with_tabW stipendtop_WholeYears.tab27 stipendtop_WholeYears.bits27 (fun HT_ HW_ => ?_)
                generalize w90.drew = w91 at BK1149 BK1168 HI1162 HB hHeld ⊢
                refine pure_ (i := 0) (N := some 146) (v := ?_) (a' := ?_) #[true, false, false, false, false, false, false, false, false] rfl rfl (any_of HT_.out (by kernel_rfl)) (fun _ _ _ h => h) (Or.inl ⟨by rfl, ?_⟩) ?_ ?_
                rotate_left
                ·intro w'
                 go_simp
                 with_reducible rfl
                rotate_left
                ·simp only [Act.put, zA_, zB_, zC_, i64_w, i32_w]
                 rfl
                refine take_ (i := 2) (N := some 148) (v := ?_) (a' := ?_) #[true, false, true, false, false, false, false, false, false] rfl rfl (take_ofW HT_.out HW_.out (by kernel_rfl)) (fun _ _ _ h => h) (Or.inl ⟨by rfl, ?_⟩) hHeld ?_ ?_
                rotate_left
                ·rintro w' ⟨s0, s1, s2⟩
                 go_simp
                 with_reducible rfl
                rotate_left
                ·simp only [Act.put, zA_, zB_, zC_, i64_w, i32_w]
                 rfl
                refine one_ (i := 1) (N := some 147) #[true, true, true, false, false, false, false, false, false] rfl rfl (one_of HT_.out (by kernel_rfl)) (by decide) (fun K hK => ?_)
                refine goes_ Try.func18 (by kernel_rfl) rfl #[.pointer (some ⟨g1162, 0, none⟩)] (by rfl) rfl rfl (by (try simp only [List.map_toArray, List.map_cons, List.map_nil]); first | done | rfl) ?_
                with_reducible refine (period_Year_End.calls g1162 t1171 t1172 t1173 t1174 t1175 t1176 t1177 t1178 t1179 t1234 t1235 t1236 t1237 t1238 t1239 t1240 t1241 t1242 t1243 t1244 t1245 w _ ?side1 ?side2 A78.out).mono ?_
                (case side1 => repeat (first | (with_reducible first | exact HI1162.out | apply sA_ | apply sN_ | apply sD_ | refine sF_ ?_ NB1162_1149.out _ | refine sF_ ?_ NB1162_1168.out _) | exact HI1162.out))
                (case side2 => repeat (first | (with_reducible first | exact HB.out | apply lA_ | apply lN_ | apply lD_ | refine lS_ ?_ (sG_ HI1162.out) | refine lS_ ?_ GE1149.out | refine lS_ ?_ GE1168.out) | exact HB.out))
                rintro e w92 ⟨rfl, hi, hb, hk⟩
                refine ⟨_, rfl, ?_⟩
                have n0_ := a0_ (KeepBut.blk hk (g' := gb1149) (o := .cells #[.int .i64 a1_0, .int .i64 a1_1, .int .i64 a1_2] 23 (0, 0)) (by (with_reducible repeat first | apply bN_ | apply bD_ | apply bA_); exact BK1149.out) NB1149_1162.out (by simp))
                have n1_ := a0_ (KeepBut.blk hk (g' := gb1168) (o := .cells #[.int .i64 t1164, .int .i64 t1165, .int .i64 t1166] 23 (0, 0)) (by (with_reducible repeat first | apply bN_ | apply bD_ | apply bA_); exact BK1168.out) NB1168_1162.out (by simp))
                have n2_ := a0_ (hb)
                have n3_ := a0_ (hi)
                clear BK1149
                clear BK1168
                clear HB
                clear HI1162
                have BK1149 := n0_
                have BK1168 := n1_
                have HB := n2_
                have HI1162 := n3_
                clear n0_ n1_ n2_ n3_
                (try clear hb)
                (try clear hb2)
                (try clear hk)
                (try clear hi)
                refine hK.out _ _ ⟨(bC_ BK1168.out 0).trans rfl, (bC_ BK1168.out 1).trans rfl, (bC_ BK1168.out 2).trans rfl⟩ (fun hHeld => ?_)
                clear hK K
                refine norm_ (a' := ?_) ?_ ?_
                rotate_left
                ·show Act.put _ (some 147) _ = _
                 simp only [Act.put, zA_, zB_, zC_, i64_w, i32_w]
                 rfl
                refine one_ (i := 3) (N := some 149) #[true, true, true, true, false, false, false, false, false] rfl rfl (one_of HT_.out (by kernel_rfl)) (by decide) (fun K hK => ?_)
                refine goes_ Try.func16 (by kernel_rfl) rfl #[.agg #[.int .i64 t1234, .int .i64 t1235, .int .i64 t1236], .agg #[.int .i64 t1164, .int .i64 t1165, .int .i64 t1166]] (by rfl) rfl rfl (by (try simp only [List.map_toArray, List.map_cons, List.map_nil]); first | done | rfl) ?_
                with_reducible refine (date_Between.calls k3 t1234 t1235 t1236 t1164 t1165 t1166 t1246 t1247 _ A79.out).mono ?_
                rintro e w93 ⟨rfl, hb⟩
                refine ⟨_, rfl, ?_⟩
                have n0_ := a0_ (bB_ (g := gb1149) (o := .cells #[.int .i64 a1_0, .int .i64 a1_1, .int .i64 a1_2] 23 (0, 0)) (by (with_reducible repeat first | apply bN_ | apply bD_ | apply bA_); exact BK1149.out) hb)
                have n1_ := a0_ (bB_ (g := gb1168) (o := .cells #[.int .i64 t1164, .int .i64 t1165, .int .i64 t1166] 23 (0, 0)) (by (with_reducible repeat first | apply bN_ | apply bD_ | apply bA_); exact BK1168.out) hb)
                have n2_ := a0_ (IsS62.below (by repeat (first | (with_reducible first | exact HI1162.out | apply sA_ | apply sN_ | apply sD_ | refine sF_ ?_ NB1162_1149.out _ | refine sF_ ?_ NB1162_1168.out _) | exact HI1162.out)) hb)
                have n3_ := a0_ (below_step (by repeat (first | (with_reducible first | exact HB.out | apply lA_ | apply lN_ | apply lD_ | refine lS_ ?_ (sG_ HI1162.out) | refine lS_ ?_ GE1149.out | refine lS_ ?_ GE1168.out) | exact HB.out)) hb)
                clear BK1149
                clear BK1168
                clear HI1162
                clear HB
                have BK1149 := n0_
                have BK1168 := n1_
                have HI1162 := n2_
                have HB := n3_
                clear n0_ n1_ n2_ n3_
                (try clear hb)
                (try clear hb2)
                (try clear hk)
                (try clear hi)
                refine hK.out _ _ ⟨(bC_ BK1168.out 0).trans rfl, (bC_ BK1168.out 1).trans rfl, (bC_ BK1168.out 2).trans rfl⟩ (fun hHeld => ?_)
                clear hK K
                refine norm_ (a' := ?_) ?_ ?_
                rotate_left
                ·show Act.put _ (some 149) _ = _
                 simp only [Act.put, zA_, zB_, zC_, i64_w, i32_w]
                 rfl
                refine pure_ (i := 4) (N := some 145) (v := ?_) (a' := ?_) #[true, true, true, true, true, false, false, false, false] rfl rfl (any_of HT_.out (by kernel_rfl)) (fun _ _ _ h => h) (Or.inl ⟨by rfl, ?_⟩) ?_ ?_
                rotate_left
                ·intro w'
                 go_simp
                 with_reducible rfl
                rotate_left
                ·simp only [Act.put, zA_, zB_, zC_, i64_w, i32_w]
                 rfl
                refine pure_ (i := 5) (N := some 150) (v := ?_) (a' := ?_) #[true, true, true, true, true, true, false, false, false] rfl rfl (any_of HT_.out (by kernel_rfl)) (fun _ _ _ h => h) (Or.inl ⟨by rfl, ?_⟩) ?_ ?_
                rotate_left
                ·intro w'
                 go_simp
                 with_reducible rfl
                rotate_left
                ·simp only [Act.put, zA_, zB_, zC_, i64_w, i32_w]
                 rfl
                refine pure_ (i := 6) (N := some 151) (v := ?_) (a' := ?_) #[true, true, true, true, true, true, true, false, false] rfl rfl (any_of HT_.out (by kernel_rfl)) (fun _ _ _ h => h) (Or.inl ⟨by rfl, ?_⟩) ?_ ?_
                rotate_left
                ·intro w'
                 go_simp
                 with_reducible rfl
                rotate_left
                ·simp only [Act.put, zA_, zB_, zC_, i64_w, i32_w]
                 rfl
                refine pure_ (i := 7) (N := some 29) (v := ?_) (a' := ?_) #[true, true, true, true, true, true, true, true, false] rfl rfl (any_of HT_.out (by kernel_rfl)) (fun _ _ _ h => h) (Or.inl ⟨by rfl, ?_⟩) ?_ ?_
                rotate_left
                ·intro w'
                 go_simp
                 with_reducible rfl
                rotate_left
                ·simp only [Act.put, zA_, zB_, zC_, i64_w, i32_w]
                 rfl
                refine pure_ (i := 8) (N := some 30) (v := ?_) (a' := ?_) #[true, true, true, true, true, true, true, true, true] rfl rfl (any_of HT_.out (by kernel_rfl)) (fun _ _ _ h => h) (Or.inl ⟨by rfl, ?_⟩) ?_ ?_
                rotate_left
                ·intro w'
                 go_simp
                 with_reducible rfl
                rotate_left
                ·simp only [Act.put, zA_, zB_, zC_, i64_w, i32_w]
                 rfl
                refine done_ (done_of HT_.out (by kernel_rfl)) ?_
                try go_wp2_with (first | ((with_reducible refine gate_callee (f := 19) rfl ?_); refine goesL_ (some 156) rfl rfl Try.func19 (by kernel_rfl) rfl #[.pointer (some ⟨g1162, 0, none⟩)] rfl (by (try simp only [List.map_toArray, List.map_cons, List.map_nil]); first | done | rfl) ?_; (with_reducible refine (period_Year_Next_A.calls k3 g1162 t1237 t1238 t1239 t1240 t1241 t1242 t1243 t1244 t1245 t1248 t1249 t1250 t1251 t1252 t1253 t1254 t1255 t1256 t1258 w _ ?side1 ?side2 A82.out).mono ?_); (case side1 => repeat (first | (with_reducible first | exact HI1162.out | apply sA_ | apply sN_ | apply sD_ | refine sF_ ?_ NB1162_1149.out _ | refine sF_ ?_ NB1162_1168.out _) | exact HI1162.out)); (case side2 => repeat (first | (with_reducible first | exact HB.out | apply lA_ | apply lN_ | apply lD_ | refine lS_ ?_ (sG_ HI1162.out) | refine lS_ ?_ GE1149.out | refine lS_ ?_ GE1168.out) | exact HB.out)); rintro e w94 ⟨g1257, rfl, hi, hb, hb2, hge⟩; refine ⟨_, rfl, ?_⟩; have n0_ := a0_ (bB_ (g := gb1149) (o := .cells #[.int .i64 a1_0, .int .i64 a1_1, .int .i64 a1_2] 23 (0, 0)) (by (with_reducible repeat first | apply bN_ | apply bD_ | apply bA_); exact BK1149.out) hb2); have n1_ := a0_ (bB_ (g := gb1168) (o := .cells #[.int .i64 t1164, .int .i64 t1165, .int .i64 t1166] 23 (0, 0)) (by (with_reducible repeat first | apply bN_ | apply bD_ | apply bA_); exact BK1168.out) hb2); have n2_ := a0_ (IsS62.below (by repeat (first | (with_reducible first | exact HI1162.out | apply sA_ | apply sN_ | apply sD_ | refine sF_ ?_ NB1162_1149.out _ | refine sF_ ?_ NB1162_1168.out _) | exact HI1162.out)) hb2); have n3_ := a0_ (hb); have n4_ := a0_ (hi); have n5_ := a0_ (Nat.ne_of_gt (Nat.lt_of_lt_of_le (IsS62.lt (show IsS62 w _ g1162 t1237 t1238 t1239 t1240 t1241 t1242 t1243 t1244 t1245 from by repeat (first | (with_reducible first | exact HI1162.out | apply sA_ | apply sN_ | apply sD_ | refine sF_ ?_ NB1162_1149.out _ | refine sF_ ?_ NB1162_1168.out _) | exact HI1162.out))) hge)); have n6_ := a0_ (Nat.ne_of_lt (Nat.lt_of_lt_of_le (IsS62.lt (show IsS62 w _ g1162 t1237 t1238 t1239 t1240 t1241 t1242 t1243 t1244 t1245 from by repeat (first | (with_reducible first | exact HI1162.out | apply sA_ | apply sN_ | apply sD_ | refine sF_ ?_ NB1162_1149.out _ | refine sF_ ?_ NB1162_1168.out _) | exact HI1162.out))) hge)); have n7_ := a0_ (IsS62.ne_blk hi (bB_ (g := gb1149) (o := .cells #[.int .i64 a1_0, .int .i64 a1_1, .int .i64 a1_2] 23 (0, 0)) (by (with_reducible repeat first | apply bN_ | apply bD_ | apply bA_); exact BK1149.out) hb2) (by decide)); have n8_ := a0_ (Ne.symm (IsS62.ne_blk hi (bB_ (g := gb1149) (o := .cells #[.int .i64 a1_0, .int .i64 a1_1, .int .i64 a1_2] 23 (0, 0)) (by (with_reducible repeat first | apply bN_ | apply bD_ | apply bA_); exact BK1149.out) hb2) (by decide))); have n9_ := a0_ (IsS62.ne_blk hi (bB_ (g := gb1168) (o := .cells #[.int .i64 t1164, .int .i64 t1165, .int .i64 t1166] 23 (0, 0)) (by (with_reducible repeat first | apply bN_ | apply bD_ | apply bA_); exact BK1168.out) hb2) (by decide)); have n10_ := a0_ (Ne.symm (IsS62.ne_blk hi (bB_ (g := gb1168) (o := .cells #[.int .i64 t1164, .int .i64 t1165, .int .i64 t1166] 23 (0, 0)) (by (with_reducible repeat first | apply bN_ | apply bD_ | apply bA_); exact BK1168.out) hb2) (by decide))); clear BK1149; clear BK1168; clear HI1162; clear HB; have BK1149 := n0_; have BK1168 := n1_; have HI1162 := n2_; have HB := n3_; have HI1257 := n4_; have NB1257_1162 := n5_; have NB1162_1257 := n6_; have NB1257_1149 := n7_; have NB1149_1257 := n8_; have NB1257_1168 := n9_; have NB1168_1257 := n10_; clear n0_ n1_ n2_ n3_ n4_ n5_ n6_ n7_ n8_ n9_ n10_; (try clear hb); (try clear hb2); (try clear hk); (try clear hi)) | ((with_reducible refine gate_callee (f := 18) rfl ?_); refine goesL_ (some 165) rfl rfl Try.func18 (by kernel_rfl) rfl #[.pointer (some ⟨g1162, 0, none⟩)] rfl (by (try simp only [List.map_toArray, List.map_cons, List.map_nil]); first | done | rfl) ?_; (with_reducible refine (period_Year_End.calls g1162 t1237 t1238 t1239 t1240 t1241 t1242 t1243 t1244 t1245 t1259 t1260 t1261 t1262 t1263 t1264 t1265 t1266 t1267 t1268 t1269 t1270 w _ ?side1 ?side2 A83.out).mono ?_); (case side1 => repeat (first | (with_reducible first | exact HI1162.out | apply sA_ | apply sN_ | apply sD_ | refine sF_ ?_ NB1162_1149.out _ | refine sF_ ?_ NB1162_1168.out _) | exact HI1162.out)); (case side2 => repeat (first | (with_reducible first | exact HB.out | apply lA_ | apply lN_ | apply lD_ | refine lS_ ?_ (sG_ HI1162.out) | refine lS_ ?_ (sG_ HI1257.out) | refine lS_ ?_ GE1149.out | refine lS_ ?_ GE1168.out) | exact HB.out)); rintro e w95 ⟨rfl, hi, hb, hk⟩; refine ⟨_, rfl, ?_⟩; have n0_ := a0_ (KeepBut.blk hk (g' := gb1149) (o := .cells #[.int .i64 a1_0, .int .i64 a1_1, .int .i64 a1_2] 23 (0, 0)) (by (with_reducible repeat first | apply bN_ | apply bD_ | apply bA_); exact BK1149.out) NB1149_1162.out (by simp)); have n1_ := a0_ (KeepBut.blk hk (g' := gb1168) (o := .cells #[.int .i64 t1164, .int .i64 t1165, .int .i64 t1166] 23 (0, 0)) (by (with_reducible repeat first | apply bN_ | apply bD_ | apply bA_); exact BK1168.out) NB1168_1162.out (by simp)); have n2_ := a0_ (IsS62.keepbut (show IsS62 w _ g1257 t1248 t1249 t1250 t1251 t1252 t1253 t1254 t1255 t1256 from by repeat (first | (with_reducible first | exact HI1257.out | apply sA_ | apply sN_ | apply sD_ | refine sF_ ?_ NB1257_1149.out _ | refine sF_ ?_ NB1257_1168.out _) | exact HI1257.out)) hk NB1257_1162.out); have n3_ := a0_ (hb); have n4_ := a0_ (hi); clear BK1149; clear BK1168; clear HI1257; clear HB; clear HI1162; have BK1149 := n0_; have BK1168 := n1_; have HI1257 := n2_; have HB := n3_; have HI1162 := n4_; clear n0_ n1_ n2_ n3_ n4_; (try clear hb); (try clear hb2); (try clear hk); (try clear hi)) | ((with_reducible refine gate_callee (f := 17) rfl ?_); refine goesL_ (some 167) rfl rfl Try.func17 (by kernel_rfl) rfl #[.pointer (some ⟨g1257, 0, none⟩)] rfl (by (try simp only [List.map_toArray, List.map_cons, List.map_nil]); first | done | rfl) ?_; (with_reducible refine (period_Year_Start.calls g1257 t1248 t1249 t1250 t1251 t1252 t1253 t1254 t1255 t1256 t1271 t1272 t1273 t1274 t1275 t1276 t1277 t1278 t1279 t1280 t1281 t1282 w _ ?side1 ?side2 A84.out).mono ?_); (case side1 => repeat (first | (with_reducible first | exact HI1257.out | apply sA_ | apply sN_ | apply sD_ | refine sF_ ?_ NB1257_1149.out _ | refine sF_ ?_ NB1257_1168.out _) | exact HI1257.out)); (case side2 => repeat (first | (with_reducible first | exact HB.out | apply lA_ | apply lN_ | apply lD_ | refine lS_ ?_ (sG_ HI1162.out) | refine lS_ ?_ (sG_ HI1257.out) | refine lS_ ?_ GE1149.out | refine lS_ ?_ GE1168.out) | exact HB.out)); rintro e w96 ⟨rfl, hi, hb, hk⟩; refine ⟨_, rfl, ?_⟩; have n0_ := a0_ (KeepBut.blk hk (g' := gb1149) (o := .cells #[.int .i64 a1_0, .int .i64 a1_1, .int .i64 a1_2] 23 (0, 0)) (by (with_reducible repeat first | apply bN_ | apply bD_ | apply bA_); exact BK1149.out) NB1149_1257.out (by simp)); have n1_ := a0_ (KeepBut.blk hk (g' := gb1168) (o := .cells #[.int .i64 t1164, .int .i64 t1165, .int .i64 t1166] 23 (0, 0)) (by (with_reducible repeat first | apply bN_ | apply bD_ | apply bA_); exact BK1168.out) NB1168_1257.out (by simp)); have n2_ := a0_ (IsS62.keepbut (show IsS62 w _ g1162 t1262 t1263 t1264 t1265 t1266 t1267 t1268 t1269 t1270 from by repeat (first | (with_reducible first | exact HI1162.out | apply sA_ | apply sN_ | apply sD_ | refine sF_ ?_ NB1162_1149.out _ | refine sF_ ?_ NB1162_1168.out _) | exact HI1162.out)) hk NB1162_1257.out); have n3_ := a0_ (hb); have n4_ := a0_ (hi); clear BK1149; clear BK1168; clear HI1162; clear HB; clear HI1257; have BK1149 := n0_; have BK1168 := n1_; have HI1162 := n2_; have HB := n3_; have HI1257 := n4_; clear n0_ n1_ n2_ n3_ n4_; (try clear hb); (try clear hb2); (try clear hk); (try clear hi)) | ((with_reducible refine gate_callee (f := 16) rfl ?_); refine goesL_ (some 168) rfl rfl Try.func16 (by kernel_rfl) rfl #[.agg #[.int .i64 t1259, .int .i64 t1260, .int .i64 t1261], .agg #[.int .i64 t1271, .int .i64 t1272, .int .i64 t1273]] rfl (by (try simp only [List.map_toArray, List.map_cons, List.map_nil]); first | done | rfl) ?_; (with_reducible refine (date_Between.calls k3 t1259 t1260 t1261 t1271 t1272 t1273 t1283 t1284 _ A85.out).mono ?_); rintro e w97 ⟨rfl, hb⟩; refine ⟨_, rfl, ?_⟩; have n0_ := a0_ (bB_ (g := gb1149) (o := .cells #[.int .i64 a1_0, .int .i64 a1_1, .int .i64 a1_2] 23 (0, 0)) (by (with_reducible repeat first | apply bN_ | apply bD_ | apply bA_); exact BK1149.out) hb); have n1_ := a0_ (bB_ (g := gb1168) (o := .cells #[.int .i64 t1164, .int .i64 t1165, .int .i64 t1166] 23 (0, 0)) (by (with_reducible repeat first | apply bN_ | apply bD_ | apply bA_); exact BK1168.out) hb); have n2_ := a0_ (IsS62.below (by repeat (first | (with_reducible first | exact HI1162.out | apply sA_ | apply sN_ | apply sD_ | refine sF_ ?_ NB1162_1149.out _ | refine sF_ ?_ NB1162_1168.out _) | exact HI1162.out)) hb); have n3_ := a0_ (IsS62.below (by repeat (first | (with_reducible first | exact HI1257.out | apply sA_ | apply sN_ | apply sD_ | refine sF_ ?_ NB1257_1149.out _ | refine sF_ ?_ NB1257_1168.out _) | exact HI1257.out)) hb); have n4_ := a0_ (below_step (by repeat (first | (with_reducible first | exact HB.out | apply lA_ | apply lN_ | apply lD_ | refine lS_ ?_ (sG_ HI1162.out) | refine lS_ ?_ (sG_ HI1257.out) | refine lS_ ?_ GE1149.out | refine lS_ ?_ GE1168.out) | exact HB.out)) hb); clear BK1149; clear BK1168; clear HI1162; clear HI1257; clear HB; have BK1149 := n0_; have BK1168 := n1_; have HI1162 := n2_; have HI1257 := n3_; have HB := n4_; clear n0_ n1_ n2_ n3_ n4_; (try clear hb); (try clear hb2); (try clear hk); (try clear hi)))
                go_roundg k3
                case measure => have := HJ4.out; have := HJ11.out; have := HK3.out; omega
                case rel => exact ⟨g1257, (wrap64 (x72_3 + 1)), (t1274), (t1275), (t1276), (t1277), (t1278), (t1279), (t1280), (t1281), (t1282), (by first | rfl | (simp; done) | (simp [*]; done)), (by first | rfl | (simp; done) | (simp [*]; done)), H', ⟨by have := HJ4.out; have := HJ11.out; have := HK3.out; omega⟩, ⟨by (with_reducible repeat first | apply bN_ | apply bD_ | apply bA_); exact BK1149.out⟩, ⟨by (with_reducible repeat first | apply bN_ | apply bD_ | apply bA_); exact BK1168.out⟩, ⟨by repeat (first | (with_reducible first | exact HI1257.out | apply sA_ | apply sN_ | apply sD_) | exact HI1257.out)⟩, ⟨by repeat (first | (with_reducible first | exact HB.out | apply lA_ | apply lN_ | apply lD_ | refine lS_ ?_ (sG_ HI1162.out) | refine lS_ ?_ (sG_ HI1257.out) | refine lS_ ?_ GE1149.out | refine lS_ ?_ GE1168.out) | exact HB.out)⟩⟩
               ·rw [if_neg c86] at H
                exact absurd H (by simp)
              ·rw [if_neg c81] at H
               have c81b0 : period_Year_Next.made t1237 t1238 t1239 t1240 t1241 t1242 t1243 t1244 t1245 = false := by simpa using c81
               clear c81
               replace H := oB_ H
               obtain ⟨⟨t1285, t1286, t1287, t1288, t1289, t1290, t1291, t1292, t1293, t1294⟩, A980, H⟩ := H
               replace H : (some (t1285 == 30)) = some r := H
               have A98 := a0_ A980
               clear A980
               obtain rfl := Option.some.inj H
               have hnb99 := NB1168_1149.out
               have hnc99 := NB1149_1168.out
               have hnb100 := NB1168_1162.out
               have hnc100 := NB1162_1168.out
               have hcz101_0 : wr.cell? ⟨gb1168, 0, none⟩ = some (.int .i64 t1164) := (bC_ BK1168.out 0).trans rfl
               have hcz101_1 : wr.cell? ⟨gb1168, 1, none⟩ = some (.int .i64 t1165) := (bC_ BK1168.out 1).trans rfl
               have hcz101_2 : wr.cell? ⟨gb1168, 2, none⟩ = some (.int .i64 t1166) := (bC_ BK1168.out 2).trans rfl
               have hfz101_0 := bF_ BK1168.out 0
               have hfz101_1 := bF_ BK1168.out 1
               have hfz101_2 := bF_ BK1168.out 2
               try go_wp2_with (first | ((with_reducible refine gate_callee (f := 14) rfl ?_); refine goesL_ (some 77) rfl rfl Try.func14 (by kernel_rfl) rfl #[.pointer (some ⟨g1162, 0, none⟩), .agg #[.int .i64 t1164, .int .i64 t1165, .int .i64 t1166]] rfl (by (try simp only [List.map_toArray, List.map_cons, List.map_nil]); first | done | rfl) ?_; (with_reducible refine (period_Year_Index.calls k3 g1162 x1163000_3 x1163001_3 x1163002_3 x1163003_3 x1163004_3 x1163005_3 x1163006_3 x1163007_3 x1163008_3 t1164 t1165 t1166 t1169 t1170 t1171 t1172 t1173 t1174 t1175 t1176 t1177 t1178 t1179 w _ ?side1 ?side2 A29.out).mono ?_); (case side1 => repeat (first | (with_reducible first | exact HI1162.out | apply sA_ | apply sN_ | apply sD_ | refine sF_ ?_ NB1162_1149.out _ | refine sF_ ?_ NB1162_1168.out _) | exact HI1162.out)); (case side2 => repeat (first | (with_reducible first | exact HB.out | apply lA_ | apply lN_ | apply lD_ | refine lS_ ?_ (sG_ HI1162.out) | refine lS_ ?_ GE1149.out | refine lS_ ?_ GE1168.out) | exact HB.out)); rintro e w102 ⟨rfl, hi, hb, hk⟩; refine ⟨_, rfl, ?_⟩; have n0_ := a0_ (KeepBut.blk hk (g' := gb1149) (o := .cells #[.int .i64 a1_0, .int .i64 a1_1, .int .i64 a1_2] 23 (0, 0)) (by (with_reducible repeat first | apply bN_ | apply bD_ | apply bA_); exact BK1149.out) NB1149_1162.out (by simp)); have n1_ := a0_ (KeepBut.blk hk (g' := gb1168) (o := .cells #[.int .i64 t1164, .int .i64 t1165, .int .i64 t1166] 23 (0, 0)) (by (with_reducible repeat first | apply bN_ | apply bD_ | apply bA_); exact BK1168.out) NB1168_1162.out (by simp)); have n2_ := a0_ (hb); have n3_ := a0_ (hi); clear BK1149; clear BK1168; clear HB; clear HI1162; have BK1149 := n0_; have BK1168 := n1_; have HB := n2_; have HI1162 := n3_; clear n0_ n1_ n2_ n3_; (try clear hb); (try clear hb2); (try clear hk); (try clear hi)))
               have n0_ := a0_ (bD_ BK1149.out)
               have n1_ := a0_ (bD_ BK1168.out)
               have n2_ := a0_ (sD_ HI1162.out)
               have n3_ := a0_ (lD_ HB.out)
               clear BK1149
               clear BK1168
               clear HI1162
               clear HB
               have BK1149 := n0_
               have BK1168 := n1_
               have HI1162 := n2_
               have HB := n3_
               clear n0_ n1_ n2_ n3_
               refine start_ (n := 9) (S := fun w' => w'.cell? ⟨gb1168, 0, none⟩ = some (.int .i64 t1164) ∧ w'.cell? ⟨gb1168, 1, none⟩ = some (.int .i64 t1165) ∧ w'.cell? ⟨gb1168, 2, none⟩ = some (.int .i64 t1166)) (ds := []) #[false, false, false, false, false, false, false, false, false] (by kernel_rfl) rfl rfl ⟨(bC_ BK1168.out 0).trans rfl, (bC_ BK1168.out 1).trans rfl, (bC_ BK1168.out 2).trans rfl⟩ (fun hHeld => ?_); refine with_tabW stipendtop_WholeYears.tab27 stipendtop_WholeYears.bits27 (fun HT_ HW_ => ?_)
               generalize w102.drew = w103 at BK1149 BK1168 HI1162 HB hHeld ⊢
               refine pure_ (i := 0) (N := some 146) (v := ?_) (a' := ?_) #[true, false, false, false, false, false, false, false, false] rfl rfl (any_of HT_.out (by kernel_rfl)) (fun _ _ _ h => h) (Or.inl ⟨by rfl, ?_⟩) ?_ ?_
               rotate_left
               ·intro w'
                go_simp
                with_reducible rfl
               rotate_left
               ·simp only [Act.put, zA_, zB_, zC_, i64_w, i32_w]
                rfl
               refine take_ (i := 2) (N := some 148) (v := ?_) (a' := ?_) #[true, false, true, false, false, false, false, false, false] rfl rfl (take_ofW HT_.out HW_.out (by kernel_rfl)) (fun _ _ _ h => h) (Or.inl ⟨by rfl, ?_⟩) hHeld ?_ ?_
               rotate_left
               ·rintro w' ⟨s0, s1, s2⟩
                go_simp
                with_reducible rfl
               rotate_left
               ·simp only [Act.put, zA_, zB_, zC_, i64_w, i32_w]
                rfl
               refine one_ (i := 1) (N := some 147) #[true, true, true, false, false, false, false, false, false] rfl rfl (one_of HT_.out (by kernel_rfl)) (by decide) (fun K hK => ?_)
               refine goes_ Try.func18 (by kernel_rfl) rfl #[.pointer (some ⟨g1162, 0, none⟩)] (by rfl) rfl rfl (by (try simp only [List.map_toArray, List.map_cons, List.map_nil]); first | done | rfl) ?_
               with_reducible refine (period_Year_End.calls g1162 t1171 t1172 t1173 t1174 t1175 t1176 t1177 t1178 t1179 t1234 t1235 t1236 t1237 t1238 t1239 t1240 t1241 t1242 t1243 t1244 t1245 w _ ?side1 ?side2 A78.out).mono ?_
               (case side1 => repeat (first | (with_reducible first | exact HI1162.out | apply sA_ | apply sN_ | apply sD_ | refine sF_ ?_ NB1162_1149.out _ | refine sF_ ?_ NB1162_1168.out _) | exact HI1162.out))
               (case side2 => repeat (first | (with_reducible first | exact HB.out | apply lA_ | apply lN_ | apply lD_ | refine lS_ ?_ (sG_ HI1162.out) | refine lS_ ?_ GE1149.out | refine lS_ ?_ GE1168.out) | exact HB.out))
               rintro e w104 ⟨rfl, hi, hb, hk⟩
               refine ⟨_, rfl, ?_⟩
               have n0_ := a0_ (KeepBut.blk hk (g' := gb1149) (o := .cells #[.int .i64 a1_0, .int .i64 a1_1, .int .i64 a1_2] 23 (0, 0)) (by (with_reducible repeat first | apply bN_ | apply bD_ | apply bA_); exact BK1149.out) NB1149_1162.out (by simp))
               have n1_ := a0_ (KeepBut.blk hk (g' := gb1168) (o := .cells #[.int .i64 t1164, .int .i64 t1165, .int .i64 t1166] 23 (0, 0)) (by (with_reducible repeat first | apply bN_ | apply bD_ | apply bA_); exact BK1168.out) NB1168_1162.out (by simp))
               have n2_ := a0_ (hb)
               have n3_ := a0_ (hi)
               clear BK1149
               clear BK1168
               clear HB
               clear HI1162
               have BK1149 := n0_
               have BK1168 := n1_
               have HB := n2_
               have HI1162 := n3_
               clear n0_ n1_ n2_ n3_
               (try clear hb)
               (try clear hb2)
               (try clear hk)
               (try clear hi)
               refine hK.out _ _ ⟨(bC_ BK1168.out 0).trans rfl, (bC_ BK1168.out 1).trans rfl, (bC_ BK1168.out 2).trans rfl⟩ (fun hHeld => ?_)
               clear hK K
               refine norm_ (a' := ?_) ?_ ?_
               rotate_left
               ·show Act.put _ (some 147) _ = _
                simp only [Act.put, zA_, zB_, zC_, i64_w, i32_w]
                rfl
               refine one_ (i := 3) (N := some 149) #[true, true, true, true, false, false, false, false, false] rfl rfl (one_of HT_.out (by kernel_rfl)) (by decide) (fun K hK => ?_)
               refine goes_ Try.func16 (by kernel_rfl) rfl #[.agg #[.int .i64 t1234, .int .i64 t1235, .int .i64 t1236], .agg #[.int .i64 t1164, .int .i64 t1165, .int .i64 t1166]] (by rfl) rfl rfl (by (try simp only [List.map_toArray, List.map_cons, List.map_nil]); first | done | rfl) ?_
               with_reducible refine (date_Between.calls k3 t1234 t1235 t1236 t1164 t1165 t1166 t1246 t1247 _ A79.out).mono ?_
               rintro e w105 ⟨rfl, hb⟩
               refine ⟨_, rfl, ?_⟩
               have n0_ := a0_ (bB_ (g := gb1149) (o := .cells #[.int .i64 a1_0, .int .i64 a1_1, .int .i64 a1_2] 23 (0, 0)) (by (with_reducible repeat first | apply bN_ | apply bD_ | apply bA_); exact BK1149.out) hb)
               have n1_ := a0_ (bB_ (g := gb1168) (o := .cells #[.int .i64 t1164, .int .i64 t1165, .int .i64 t1166] 23 (0, 0)) (by (with_reducible repeat first | apply bN_ | apply bD_ | apply bA_); exact BK1168.out) hb)
               have n2_ := a0_ (IsS62.below (by repeat (first | (with_reducible first | exact HI1162.out | apply sA_ | apply sN_ | apply sD_ | refine sF_ ?_ NB1162_1149.out _ | refine sF_ ?_ NB1162_1168.out _) | exact HI1162.out)) hb)
               have n3_ := a0_ (below_step (by repeat (first | (with_reducible first | exact HB.out | apply lA_ | apply lN_ | apply lD_ | refine lS_ ?_ (sG_ HI1162.out) | refine lS_ ?_ GE1149.out | refine lS_ ?_ GE1168.out) | exact HB.out)) hb)
               clear BK1149
               clear BK1168
               clear HI1162
               clear HB
               have BK1149 := n0_
               have BK1168 := n1_
               have HI1162 := n2_
               have HB := n3_
               clear n0_ n1_ n2_ n3_
               (try clear hb)
               (try clear hb2)
               (try clear hk)
               (try clear hi)
               refine hK.out _ _ ⟨(bC_ BK1168.out 0).trans rfl, (bC_ BK1168.out 1).trans rfl, (bC_ BK1168.out 2).trans rfl⟩ (fun hHeld => ?_)
               clear hK K
               refine norm_ (a' := ?_) ?_ ?_
               rotate_left
               ·show Act.put _ (some 149) _ = _
                simp only [Act.put, zA_, zB_, zC_, i64_w, i32_w]
                rfl
               refine pure_ (i := 4) (N := some 145) (v := ?_) (a' := ?_) #[true, true, true, true, true, false, false, false, false] rfl rfl (any_of HT_.out (by kernel_rfl)) (fun _ _ _ h => h) (Or.inl ⟨by rfl, ?_⟩) ?_ ?_
               rotate_left
               ·intro w'
                go_simp
                with_reducible rfl
               rotate_left
               ·simp only [Act.put, zA_, zB_, zC_, i64_w, i32_w]
                rfl
               refine pure_ (i := 5) (N := some 150) (v := ?_) (a' := ?_) #[true, true, true, true, true, true, false, false, false] rfl rfl (any_of HT_.out (by kernel_rfl)) (fun _ _ _ h => h) (Or.inl ⟨by rfl, ?_⟩) ?_ ?_
               rotate_left
               ·intro w'
                go_simp
                with_reducible rfl
               rotate_left
               ·simp only [Act.put, zA_, zB_, zC_, i64_w, i32_w]
                rfl
               refine pure_ (i := 6) (N := some 151) (v := ?_) (a' := ?_) #[true, true, true, true, true, true, true, false, false] rfl rfl (any_of HT_.out (by kernel_rfl)) (fun _ _ _ h => h) (Or.inl ⟨by rfl, ?_⟩) ?_ ?_
               rotate_left
               ·intro w'
                go_simp
                with_reducible rfl
               rotate_left
               ·simp only [Act.put, zA_, zB_, zC_, i64_w, i32_w]
                rfl
               refine pure_ (i := 7) (N := some 29) (v := ?_) (a' := ?_) #[true, true, true, true, true, true, true, true, false] rfl rfl (any_of HT_.out (by kernel_rfl)) (fun _ _ _ h => h) (Or.inl ⟨by rfl, ?_⟩) ?_ ?_
               rotate_left
               ·intro w'
                go_simp
                with_reducible rfl
               rotate_left
               ·simp only [Act.put, zA_, zB_, zC_, i64_w, i32_w]
                rfl
               refine pure_ (i := 8) (N := some 30) (v := ?_) (a' := ?_) #[true, true, true, true, true, true, true, true, true] rfl rfl (any_of HT_.out (by kernel_rfl)) (fun _ _ _ h => h) (Or.inl ⟨by rfl, ?_⟩) ?_ ?_
               rotate_left
               ·intro w'
                go_simp
                with_reducible rfl
               rotate_left
               ·simp only [Act.put, zA_, zB_, zC_, i64_w, i32_w]
                rfl
               refine done_ (done_of HT_.out (by kernel_rfl)) ?_
               try go_wp2_with (first | ((with_reducible refine gate_callee (f := 19) rfl ?_); refine goesL_ (some 156) rfl rfl Try.func19 (by kernel_rfl) rfl #[.pointer (some ⟨g1162, 0, none⟩)] rfl (by (try simp only [List.map_toArray, List.map_cons, List.map_nil]); first | done | rfl) ?_; (with_reducible refine (period_Year_Next_B.calls k3 g1162 t1237 t1238 t1239 t1240 t1241 t1242 t1243 t1244 t1245 t1285 t1286 t1287 t1288 t1289 t1290 t1291 t1292 t1293 t1294 w _ ?side1 ?side2 A98.out).mono ?_); (case side1 => repeat (first | (with_reducible first | exact HI1162.out | apply sA_ | apply sN_ | apply sD_ | refine sF_ ?_ NB1162_1149.out _ | refine sF_ ?_ NB1162_1168.out _) | exact HI1162.out)); (case side2 => repeat (first | (with_reducible first | exact HB.out | apply lA_ | apply lN_ | apply lD_ | refine lS_ ?_ (sG_ HI1162.out) | refine lS_ ?_ GE1149.out | refine lS_ ?_ GE1168.out) | exact HB.out)); rintro e w106 ⟨rfl, hi, hb, hk⟩; refine ⟨_, rfl, ?_⟩; have n0_ := a0_ (KeepBut.blk hk (g' := gb1149) (o := .cells #[.int .i64 a1_0, .int .i64 a1_1, .int .i64 a1_2] 23 (0, 0)) (by (with_reducible repeat first | apply bN_ | apply bD_ | apply bA_); exact BK1149.out) NB1149_1162.out (by simp)); have n1_ := a0_ (KeepBut.blk hk (g' := gb1168) (o := .cells #[.int .i64 t1164, .int .i64 t1165, .int .i64 t1166] 23 (0, 0)) (by (with_reducible repeat first | apply bN_ | apply bD_ | apply bA_); exact BK1168.out) NB1168_1162.out (by simp)); have n2_ := a0_ (hb); have n3_ := a0_ (hi); clear BK1149; clear BK1168; clear HB; clear HI1162; have BK1149 := n0_; have BK1168 := n1_; have HB := n2_; have HI1162 := n3_; clear n0_ n1_ n2_ n3_; (try clear hb); (try clear hb2); (try clear hk); (try clear hi)))
               go_ret
               exact ⟨by first | rfl | (simp [errW_none, errW_some] <;> rfl) | (simp [*, errW_none, errW_some] <;> rfl), by repeat (first | (with_reducible first | exact HB.out | apply lA_ | apply lN_ | apply lD_ | refine lS_ ?_ (sG_ HI1162.out) | refine lS_ ?_ GE1149.out | refine lS_ ?_ GE1168.out) | exact HB.out)⟩
           ·rw [if_neg c28] at H
            exact absurd H (by simp)
        ·rw [if_neg c18] at H
         have c18b0 : (t1167 == 0) = false := beq_eq_false_iff_ne.mpr c18
         have c18b1 : (t1167 != 0) = true := bne_iff_ne.mpr c18
         obtain rfl := Option.some.inj H
         have hcz107_0 : wc.cell? ⟨gb1149, 0, none⟩ = some (.int .i64 a1_0) := (bC_ BK1149.out 0).trans rfl
         have hcz107_1 : wc.cell? ⟨gb1149, 1, none⟩ = some (.int .i64 a1_1) := (bC_ BK1149.out 1).trans rfl
         have hcz107_2 : wc.cell? ⟨gb1149, 2, none⟩ = some (.int .i64 a1_2) := (bC_ BK1149.out 2).trans rfl
         have hfz107_0 := bF_ BK1149.out 0
         have hfz107_1 := bF_ BK1149.out 1
         have hfz107_2 := bF_ BK1149.out 2
         go_wp2_with (first | ((with_reducible refine gate_callee (f := 12) rfl ?_); refine goesL_ (some 59) rfl rfl Try.func12 (by kernel_rfl) rfl #[.int .i64 a0, .agg #[.int .i64 a1_0, .int .i64 a1_1, .int .i64 a1_2]] rfl (by (try simp only [List.map_toArray, List.map_cons, List.map_nil]); first | done | rfl) ?_; (with_reducible refine (period_New_A.calls kj11 a0 a1_0 a1_1 a1_2 t1153 t1154 t1155 t1156 t1157 t1158 t1159 t1160 t1161 t1163 w _ ?side1 A16.out).mono ?_); (case side1 => repeat (first | (with_reducible first | exact HB.out | apply lA_ | apply lN_ | apply lD_ | refine lS_ ?_ GE1149.out) | exact HB.out)); rintro e w108 ⟨g1162, rfl, hi, hb, hb2, hge⟩; refine ⟨_, rfl, ?_⟩; have n0_ := a0_ (bB_ (g := gb1149) (o := .cells #[.int .i64 a1_0, .int .i64 a1_1, .int .i64 a1_2] 23 (0, 0)) (by (with_reducible repeat first | apply bN_ | apply bD_ | apply bA_); exact BK1149.out) hb2); have n1_ := a0_ (hb); have n2_ := a0_ (hi); have n3_ := a0_ (IsS62.ne_blk hi (bB_ (g := gb1149) (o := .cells #[.int .i64 a1_0, .int .i64 a1_1, .int .i64 a1_2] 23 (0, 0)) (by (with_reducible repeat first | apply bN_ | apply bD_ | apply bA_); exact BK1149.out) hb2) (by decide)); have n4_ := a0_ (Ne.symm (IsS62.ne_blk hi (bB_ (g := gb1149) (o := .cells #[.int .i64 a1_0, .int .i64 a1_1, .int .i64 a1_2] 23 (0, 0)) (by (with_reducible repeat first | apply bN_ | apply bD_ | apply bA_); exact BK1149.out) hb2) (by decide))); clear BK1149; clear HB; have BK1149 := n0_; have HB := n1_; have HI1162 := n2_; have NB1162_1149 := n3_; have NB1149_1162 := n4_; clear n0_ n1_ n2_ n3_ n4_; (try clear hb); (try clear hb2); (try clear hk); (try clear hi); have hnb109 := NB1149_1162.out; have hnc109 := NB1162_1149.out; have hcz110_0 : w108.cell? ⟨gb1149, 0, none⟩ = some (.int .i64 a1_0) := (bC_ BK1149.out 0).trans rfl; have hcz110_1 : w108.cell? ⟨gb1149, 1, none⟩ = some (.int .i64 a1_1) := (bC_ BK1149.out 1).trans rfl; have hcz110_2 : w108.cell? ⟨gb1149, 2, none⟩ = some (.int .i64 a1_2) := (bC_ BK1149.out 2).trans rfl; have hfz110_0 := bF_ BK1149.out 0; have hfz110_1 := bF_ BK1149.out 1; have hfz110_2 := bF_ BK1149.out 2) | ((with_reducible refine gate_callee (f := 13) rfl ?_); refine goesL_ (some 67) rfl rfl Try.func13 (by kernel_rfl) rfl #[.agg #[.int .i64 a1_0, .int .i64 a1_1, .int .i64 a1_2], .int .i64 a2] rfl (by (try simp only [List.map_toArray, List.map_cons, List.map_nil]); first | done | rfl) ?_; (with_reducible refine (date_Add.calls kj11 a1_0 a1_1 a1_2 a2 t1164 t1165 t1166 t1167 _ A17.out).mono ?_); rintro e w111 ⟨rfl, hb⟩; refine ⟨_, rfl, ?_⟩; have n0_ := a0_ (bB_ (g := gb1149) (o := .cells #[.int .i64 a1_0, .int .i64 a1_1, .int .i64 a1_2] 23 (0, 0)) (by (with_reducible repeat first | apply bN_ | apply bD_ | apply bA_); exact BK1149.out) hb); have n1_ := a0_ (IsS62.below (by repeat (first | (with_reducible first | exact HI1162.out | apply sA_ | apply sN_ | apply sD_ | refine sF_ ?_ NB1162_1149.out _) | exact HI1162.out)) hb); have n2_ := a0_ (below_step (by repeat (first | (with_reducible first | exact HB.out | apply lA_ | apply lN_ | apply lD_ | refine lS_ ?_ (sG_ HI1162.out) | refine lS_ ?_ GE1149.out) | exact HB.out)) hb); clear BK1149; clear HI1162; clear HB; have BK1149 := n0_; have HI1162 := n1_; have HB := n2_; clear n0_ n1_ n2_; (try clear hb); (try clear hb2); (try clear hk); (try clear hi)) | ((with_reducible refine gate_dst (N := 11) rfl ?_); refine box_event ?hg (N := 11) ?hd (cs := #[.int .i64 0, .int .i64 0, .int .i64 0]) (t := 23) ?hr ?_; (case hd => rfl); (case hg => rfl); (case hr => first | (go_simp; done) | (go_simp; rfl)); intro gb1168 hg w112 hbox hb; have n0_ := a0_ (bB_ (g := gb1149) (o := .cells #[.int .i64 a1_0, .int .i64 a1_1, .int .i64 a1_2] 23 (0, 0)) (by (with_reducible repeat first | apply bN_ | apply bD_ | apply bA_); exact BK1149.out) hb); have n1_ := a0_ (IsS62.below (by repeat (first | (with_reducible first | exact HI1162.out | apply sA_ | apply sN_ | apply sD_ | refine sF_ ?_ NB1162_1149.out _) | exact HI1162.out)) hb); have n2_ := a0_ (below_step (by repeat (first | (with_reducible first | exact HB.out | apply lA_ | apply lN_ | apply lD_ | refine lS_ ?_ (sG_ HI1162.out) | refine lS_ ?_ GE1149.out) | exact HB.out)) hb); have n3_ := a0_ (hbox); have n4_ := a0_ ((by rw [hg]; exact (below_size (by repeat (first | (with_reducible first | exact HB.out | apply lA_ | apply lN_ | apply lD_ | refine lS_ ?_ (sG_ HI1162.out) | refine lS_ ?_ GE1149.out) | exact HB.out))) : w.heap.size ≤ gb1168)); have n5_ := a0_ ((by rw [hg]; exact (below_size (by repeat (first | (with_reducible first | exact HB.out | apply lA_ | apply lN_ | apply lD_ | refine lS_ ?_ (sG_ HI1162.out) | refine lS_ ?_ GE1149.out) | exact HB.out))) : w.heap.size ≤ gb1168)); have n6_ := a0_ ((by rw [hg]; exact Nat.ne_of_lt (blk_lt (g := gb1149) (o := .cells #[.int .i64 a1_0, .int .i64 a1_1, .int .i64 a1_2] 23 (0, 0)) (by (with_reducible repeat first | apply bN_ | apply bD_ | apply bA_); exact BK1149.out)) : gb1149 ≠ gb1168)); have n7_ := a0_ ((by rw [hg]; exact Nat.ne_of_gt (blk_lt (g := gb1149) (o := .cells #[.int .i64 a1_0, .int .i64 a1_1, .int .i64 a1_2] 23 (0, 0)) (by (with_reducible repeat first | apply bN_ | apply bD_ | apply bA_); exact BK1149.out)) : gb1168 ≠ gb1149)); have n8_ := a0_ ((by rw [hg]; exact Nat.ne_of_lt (IsS62.lt (show IsS62 w _ g1162 t1153 t1154 t1155 t1156 t1157 t1158 t1159 t1160 t1161 from by repeat (first | (with_reducible first | exact HI1162.out | apply sA_ | apply sN_ | apply sD_ | refine sF_ ?_ NB1162_1149.out _) | exact HI1162.out))) : g1162 ≠ gb1168)); have n9_ := a0_ ((by rw [hg]; exact Nat.ne_of_gt (IsS62.lt (show IsS62 w _ g1162 t1153 t1154 t1155 t1156 t1157 t1158 t1159 t1160 t1161 from by repeat (first | (with_reducible first | exact HI1162.out | apply sA_ | apply sN_ | apply sD_ | refine sF_ ?_ NB1162_1149.out _) | exact HI1162.out))) : gb1168 ≠ g1162)); clear BK1149; clear HI1162; clear HB; have BK1149 := n0_; have HI1162 := n1_; have HB := n2_; have BK1168 := n3_; have GW1168 := n4_; have GE1168 := n5_; have NB1149_1168 := n6_; have NB1168_1149 := n7_; have NB1162_1168 := n8_; have NB1168_1162 := n9_; clear n0_ n1_ n2_ n3_ n4_ n5_ n6_ n7_ n8_ n9_; clear hb hbox hg; have hnb113 := NB1168_1149.out; have hnc113 := NB1149_1168.out; have hnb114 := NB1168_1162.out; have hnc114 := NB1162_1168.out; have hcz115_0 : w112.cell? ⟨gb1168, 0, none⟩ = some (.int .i64 0) := (bC_ BK1168.out 0).trans rfl; have hcz115_1 : w112.cell? ⟨gb1168, 1, none⟩ = some (.int .i64 0) := (bC_ BK1168.out 1).trans rfl; have hcz115_2 : w112.cell? ⟨gb1168, 2, none⟩ = some (.int .i64 0) := (bC_ BK1168.out 2).trans rfl; have hfz115_0 := bF_ BK1168.out 0; have hfz115_1 := bF_ BK1168.out 1; have hfz115_2 := bF_ BK1168.out 2))
         go_ret
         exact ⟨by first | rfl | (simp [errW_none, errW_some] <;> rfl) | (simp [*, errW_none, errW_some] <;> rfl), by repeat (first | (with_reducible first | exact HB.out | apply lA_ | apply lN_ | apply lD_ | refine lS_ ?_ (sG_ HI1162.out) | refine lS_ ?_ GE1149.out | refine lS_ ?_ GE1168.out) | exact HB.out)⟩
       ·rw [if_neg c15] at H
        have c15b0 : period_New.made a0 a1_0 a1_1 a1_2 = false := by simpa using c15
        clear c15
        replace H := oB_ H
        obtain ⟨t1295, A1160, H⟩ := H
        replace H : (some true) = some r := H
        have A116 := a0_ A1160
        clear A1160
        obtain rfl := Option.some.inj H
        have hcz117_0 : wc.cell? ⟨gb1149, 0, none⟩ = some (.int .i64 a1_0) := (bC_ BK1149.out 0).trans rfl
        have hcz117_1 : wc.cell? ⟨gb1149, 1, none⟩ = some (.int .i64 a1_1) := (bC_ BK1149.out 1).trans rfl
        have hcz117_2 : wc.cell? ⟨gb1149, 2, none⟩ = some (.int .i64 a1_2) := (bC_ BK1149.out 2).trans rfl
        have hfz117_0 := bF_ BK1149.out 0
        have hfz117_1 := bF_ BK1149.out 1
        have hfz117_2 := bF_ BK1149.out 2
        go_wp2_with (first | ((with_reducible refine gate_callee (f := 12) rfl ?_); refine goesL_ (some 59) rfl rfl Try.func12 (by kernel_rfl) rfl #[.int .i64 a0, .agg #[.int .i64 a1_0, .int .i64 a1_1, .int .i64 a1_2]] rfl (by (try simp only [List.map_toArray, List.map_cons, List.map_nil]); first | done | rfl) ?_; (with_reducible refine (period_New_B.calls kj11 a0 a1_0 a1_1 a1_2 t1295 _ A116.out).mono ?_); rintro e w118 ⟨rfl, hb⟩; refine ⟨_, rfl, ?_⟩; have n0_ := a0_ (bB_ (g := gb1149) (o := .cells #[.int .i64 a1_0, .int .i64 a1_1, .int .i64 a1_2] 23 (0, 0)) (by (with_reducible repeat first | apply bN_ | apply bD_ | apply bA_); exact BK1149.out) hb); have n1_ := a0_ (below_step (by repeat (first | (with_reducible first | exact HB.out | apply lA_ | apply lN_ | apply lD_ | refine lS_ ?_ GE1149.out) | exact HB.out)) hb); clear BK1149; clear HB; have BK1149 := n0_; have HB := n1_; clear n0_ n1_; (try clear hb); (try clear hb2); (try clear hk); (try clear hi)))
        go_ret
        exact ⟨by first | rfl | (simp [errW_none, errW_some] <;> rfl) | (simp [*, errW_none, errW_some] <;> rfl), by repeat (first | (with_reducible first | exact HB.out | apply lA_ | apply lN_ | apply lD_ | refine lS_ ?_ GE1149.out) | exact HB.out)⟩

/-- THE ONE PURE STATEMENT of stipendtop_WholeYears: yours. -/
def stipendtop_WholeYears.Pure : Prop := ∀ (a0 : Int) (a1_0 : Int) (a1_1 : Int) (a1_2 : Int) (a2 : Int), (Lit.int .i64 a0).wf = true → (Lit.int .i64 a1_0).wf = true → (Lit.int .i64 a1_1).wf = true → (Lit.int .i64 a1_2).wf = true → (Lit.int .i64 a2).wf = true → ∃ k, stipendtop_WholeYears.f k a0 a1_0 a1_1 a1_2 a2 = some true
theorem stipendtop_WholeYears.walk (P : stipendtop_WholeYears.Pure) (a0 : Int) (a1_0 : Int) (a1_1 : Int) (a1_2 : Int) (a2 : Int) (w : World) (w0 : (Lit.int .i64 a0).wf = true) (w1_0 : (Lit.int .i64 a1_0).wf = true) (w1_1 : (Lit.int .i64 a1_1).wf = true) (w1_2 : (Lit.int .i64 a1_2).wf = true) (w2 : (Lit.int .i64 a2).wf = true) :
  Calls Try.prog 3 #[.int .i64 a0, .agg #[.int .i64 a1_0, .int .i64 a1_1, .int .i64 a1_2], .int .i64 a2] w fun e w' => e = .returned (.bool true) ∧ Below w.heap.size w w' := by
 obtain ⟨k, h⟩ := P a0 a1_0 a1_1 a1_2 a2 w0 w1_0 w1_1 w1_2 w2
 refine (stipendtop_WholeYears.calls k a0 a1_0 a1_1 a1_2 a2 true w h).mono ?_
 rintro e w' ⟨rfl, hd⟩
 exact ⟨rfl, hd⟩

end Go.Proofs.Ytojinnnckfimhaa.X
