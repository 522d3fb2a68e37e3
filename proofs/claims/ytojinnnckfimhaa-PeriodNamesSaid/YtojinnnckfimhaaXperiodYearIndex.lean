-- laid by the session's own program (xprint.py) out of Lean's print of the program; Lean checks it
import Derived.Test.YtojinnnckfimhaaX0
import Derived.Test.YtojinnnckfimhaaXperiodNominal
import Derived.Test.YtojinnnckfimhaaXperiodNewA
import Derived.Test.YtojinnnckfimhaaXperiodlength
import Derived.Test.YtojinnnckfimhaaXperiodYearbegin
namespace Go.Proofs.Ytojinnnckfimhaa.X
open Go.RowKit Go.Proofs.YtojinnnckfimhaaW.PrintWords Go.Proofs.YtojinnnckfimhaaW.PrintLast
set_option linter.unusedVariables false
set_option linter.unusedSimpArgs false

/-! ### period_Year_Index: function 14 -/
mutual
def period_Year_Index.j0 : Nat → Int → Bool → Int → Int → Int → Int → Int → Int → Int → Int → Int → Option (Int × Int × Int × Int × Int × Int × Int × Int × Int × Int × Int)
 | 0, _, _, _, _, _, _, _, _, _, _, _ => none
 | k + 1, x6, x36, x1000, x1001, x1002, x1003, x1004, x1005, x1006, x1007, x1008 => if x36 = true then (some (0, 1, x1000, x1001, x1002, x1003, x1004, x1005, x1006, x1007, x1008)) else ((period_length.f x1000).bind fun t237 => (if t237 > 0 then (if t237 = 0 then (none) else (some (wrap64 ((wrap64 (Int.tdiv (wrap64 (x6 - x1007)) t237)) + 1), 0, x1000, x1001, x1002, x1003, x1004, x1005, x1006, x1007, x1008))) else (period_Year_Index.l0 k x6 1 x1000 x1001 x1002 x1003 x1004 x1005 x1006 x1007 x1008)))
def period_Year_Index.l0 : Nat → Int → Int → Int → Int → Int → Int → Int → Int → Int → Int → Int → Option (Int × Int × Int × Int × Int × Int × Int × Int × Int × Int × Int)
 | 0, _, _, _, _, _, _, _, _, _, _, _ => none
 | k + 1, x6, x9, x1000, x1001, x1002, x1003, x1004, x1005, x1006, x1007, x1008 => (period_Year_Count.f x1000 x1001 x1002 x1003 x1004 x1005 x1006 x1007 x1008).bind fun bt238 => (if x9 < bt238.1 then ((period_Year_begin.f k bt238.2.1 bt238.2.2.1 bt238.2.2.2.1 bt238.2.2.2.2.1 bt238.2.2.2.2.2.1 bt238.2.2.2.2.2.2.1 bt238.2.2.2.2.2.2.2.1 bt238.2.2.2.2.2.2.2.2.1 bt238.2.2.2.2.2.2.2.2.2 (wrap64 (x9 + 1))).bind fun bt248 => (if bt248.1 ≤ x6 then (period_Year_Index.l0 k x6 (wrap64 (x9 + 1)) bt248.2.1 bt248.2.2.1 bt248.2.2.2.1 bt248.2.2.2.2.1 bt248.2.2.2.2.2.1 bt248.2.2.2.2.2.2.1 bt248.2.2.2.2.2.2.2.1 bt248.2.2.2.2.2.2.2.2.1 bt248.2.2.2.2.2.2.2.2.2) else (some (x9, 0, bt248.2.1, bt248.2.2.1, bt248.2.2.2.1, bt248.2.2.2.2.1, bt248.2.2.2.2.2.1, bt248.2.2.2.2.2.2.1, bt248.2.2.2.2.2.2.2.1, bt248.2.2.2.2.2.2.2.2.1, bt248.2.2.2.2.2.2.2.2.2)))) else (some (x9, 0, bt238.2.1, bt238.2.2.1, bt238.2.2.2.1, bt238.2.2.2.2.1, bt238.2.2.2.2.2.1, bt238.2.2.2.2.2.2.1, bt238.2.2.2.2.2.2.2.1, bt238.2.2.2.2.2.2.2.2.1, bt238.2.2.2.2.2.2.2.2.2)))
end
def period_Year_Index.f (k : Nat) (s0_0 : Int) (s0_1 : Int) (s0_2 : Int) (s0_3 : Int) (s0_4 : Int) (s0_5 : Int) (s0_6 : Int) (s0_7 : Int) (s0_8 : Int) (a1_0 : Int) (a1_1 : Int) (a1_2 : Int) : Option (Int × Int × Int × Int × Int × Int × Int × Int × Int × Int × Int) := (date_Number.f k a1_0 a1_1 a1_2).bind fun bt235 => (if bt235.2 = 0 then (if bt235.1 < s0_7 then (period_Year_Index.j0 k bt235.1 true s0_0 s0_1 s0_2 s0_3 s0_4 s0_5 s0_6 s0_7 s0_8) else (period_Year_Index.j0 k bt235.1 (decide (bt235.1 ≥ (wrap64 (s0_7 + s0_8)))) s0_0 s0_1 s0_2 s0_3 s0_4 s0_5 s0_6 s0_7 s0_8)) else (some (0, bt235.2, s0_0, s0_1, s0_2, s0_3, s0_4, s0_5, s0_6, s0_7, s0_8)))
set_option maxHeartbeats 8000000 in
set_option maxRecDepth 100000 in
theorem period_Year_Index.calls (k : Nat) (g : Nat) (s0_0 : Int) (s0_1 : Int) (s0_2 : Int) (s0_3 : Int) (s0_4 : Int) (s0_5 : Int) (s0_6 : Int) (s0_7 : Int) (s0_8 : Int) (a1_0 : Int) (a1_1 : Int) (a1_2 : Int) (r1 : Int) (r2 : Int) (r3 : Int) (r4 : Int) (r5 : Int) (r6 : Int) (r7 : Int) (r8 : Int) (r9 : Int) (r10 : Int) (r11 : Int) (w0 w : World) (hI : IsS62 w0 w g s0_0 s0_1 s0_2 s0_3 s0_4 s0_5 s0_6 s0_7 s0_8) (hB : Below w0.heap.size w0 w) (h : period_Year_Index.f k s0_0 s0_1 s0_2 s0_3 s0_4 s0_5 s0_6 s0_7 s0_8 a1_0 a1_1 a1_2 = some (r1, r2, r3, r4, r5, r6, r7, r8, r9, r10, r11)) :
  Calls Try.prog 14 #[.pointer (some ⟨g, 0, none⟩), .agg #[.int .i64 a1_0, .int .i64 a1_1, .int .i64 a1_2]] w fun e w' => e = .returned (.tuple #[.int .i64 r1, .int .i64 r2]) ∧ IsS62 w0 w' g r3 r4 r5 r6 r7 r8 r9 r10 r11 ∧ Below w0.heap.size w0 w' ∧ KeepBut w w' g none := by
 have hu23 := Try.underlying23
 have HI0 := a0_ hI
 have HK := a0_ (KeepBut.refl w g none)
 have HL := a0_ hB.size
 clear hI
 have HW0 := a0_ hB.size
 have HB := a0_ hB
 clear hB
 have H : ((date_Number.f k a1_0 a1_1 a1_2).bind fun bt235 => (if bt235.2 = 0 then (if bt235.1 < s0_7 then (period_Year_Index.j0 k bt235.1 true s0_0 s0_1 s0_2 s0_3 s0_4 s0_5 s0_6 s0_7 s0_8) else (period_Year_Index.j0 k bt235.1 (decide (bt235.1 ≥ (wrap64 (s0_7 + s0_8)))) s0_0 s0_1 s0_2 s0_3 s0_4 s0_5 s0_6 s0_7 s0_8)) else (some (0, bt235.2, s0_0, s0_1, s0_2, s0_3, s0_4, s0_5, s0_6, s0_7, s0_8)))) = some (r1, r2, r3, r4, r5, r6, r7, r8, r9, r10, r11) := h
 clear h
 replace H := oB_ H
 obtain ⟨⟨t235, t236⟩, A30, H⟩ := H
 replace H : (if t236 = 0 then (if t235 < s0_7 then (period_Year_Index.j0 k t235 true s0_0 s0_1 s0_2 s0_3 s0_4 s0_5 s0_6 s0_7 s0_8) else (period_Year_Index.j0 k t235 (decide (t235 ≥ (wrap64 (s0_7 + s0_8)))) s0_0 s0_1 s0_2 s0_3 s0_4 s0_5 s0_6 s0_7 s0_8)) else (some (0, t236, s0_0, s0_1, s0_2, s0_3, s0_4, s0_5, s0_6, s0_7, s0_8))) = some (r1, r2, r3, r4, r5, r6, r7, r8, r9, r10, r11) := H
 have A3 := a0_ A30
 clear A30
 by_cases c4 : t236 = 0
 ·rw [if_pos c4] at H
  have c4b0 : (t236 == 0) = true := beq_iff_eq.mpr c4
  have c4b1 : (t236 != 0) = false := bne_eq_false_iff_eq.mpr c4
  clear c4
  have HC5 := a0_ H
  clear H
  go_enter Try.func14, Try.ntmps14
  go_upto_region 4 with (first | ((with_reducible refine gate_dst (N := 3) rfl ?_); refine box_event ?hg (N := 3) ?hd (cs := #[.int .i64 a1_0, .int .i64 a1_1, .int .i64 a1_2]) (t := 23) ?hr ?_; (case hd => rfl); (case hg => rfl); (case hr => first | (go_simp; done) | (go_simp; rfl)); intro gb234 hg w6 hbox hb; have n0_ := a0_ (IsS62.below (by repeat (first | (with_reducible first | exact HI0.out | apply sA_ | apply sN_ | apply sD_) | exact HI0.out)) hb); have n1_ := a0_ (KeepBut.trans (by repeat (first | (with_reducible first | exact HK.out | apply KeepBut.set_ | apply keep_drewN | apply keep_drew | apply keep_alloc) | exact HK.out)) (KeepBut.of_below hb g none) (.inl rfl)); have n2_ := a0_ (below_step (by repeat (first | (with_reducible first | exact HB.out | apply lA_ | apply lN_ | apply lD_ | refine lS_ ?_ (sG_ HI0.out)) | exact HB.out)) hb); have n3_ := a0_ (hbox); have n4_ := a0_ ((by rw [hg]; exact (keep_size (w := w) (g := g) (row := none) (by repeat (first | (with_reducible first | exact HK.out | apply KeepBut.set_ | apply keep_drewN | apply keep_drew | apply keep_alloc) | exact HK.out))) : w.heap.size ≤ gb234)); have n5_ := a0_ ((Nat.le_trans HW0.out (by rw [hg]; exact (keep_size (w := w) (g := g) (row := none) (by repeat (first | (with_reducible first | exact HK.out | apply KeepBut.set_ | apply keep_drewN | apply keep_drew | apply keep_alloc) | exact HK.out))) : w.heap.size ≤ gb234) : w0.heap.size ≤ gb234)); have n6_ := a0_ ((by rw [hg]; exact Nat.ne_of_lt (IsS62.lt (show IsS62 w0 _ g s0_0 s0_1 s0_2 s0_3 s0_4 s0_5 s0_6 s0_7 s0_8 from by repeat (first | (with_reducible first | exact HI0.out | apply sA_ | apply sN_ | apply sD_) | exact HI0.out))) : g ≠ gb234)); have n7_ := a0_ ((by rw [hg]; exact Nat.ne_of_gt (IsS62.lt (show IsS62 w0 _ g s0_0 s0_1 s0_2 s0_3 s0_4 s0_5 s0_6 s0_7 s0_8 from by repeat (first | (with_reducible first | exact HI0.out | apply sA_ | apply sN_ | apply sD_) | exact HI0.out))) : gb234 ≠ g)); clear HI0; clear HK; clear HB; have HI0 := n0_; have HK := n1_; have HB := n2_; have BK234 := n3_; have GW234 := n4_; have GE234 := n5_; have NB0_234 := n6_; have NB234_0 := n7_; clear n0_ n1_ n2_ n3_ n4_ n5_ n6_ n7_; clear hb hbox hg; have hnb7 := NB234_0.out; have hnc7 := NB0_234.out; have hcz8_0 : w6.cell? ⟨gb234, 0, none⟩ = some (.int .i64 a1_0) := (bC_ BK234.out 0).trans rfl; have hcz8_1 : w6.cell? ⟨gb234, 1, none⟩ = some (.int .i64 a1_1) := (bC_ BK234.out 1).trans rfl; have hcz8_2 : w6.cell? ⟨gb234, 2, none⟩ = some (.int .i64 a1_2) := (bC_ BK234.out 2).trans rfl; have hfz8_0 := bF_ BK234.out 0; have hfz8_1 := bF_ BK234.out 1; have hfz8_2 := bF_ BK234.out 2) | (go_at_call 10; (with_reducible refine (date_Number.calls k a1_0 a1_1 a1_2 t235 t236 _ A3.out).mono ?_); rintro e w9 ⟨rfl, hb⟩; have n0_ := a0_ (IsS62.below (by repeat (first | (with_reducible first | exact HI0.out | apply sA_ | apply sN_ | apply sD_ | refine sF_ ?_ NB0_234.out _) | exact HI0.out)) hb); have n1_ := a0_ (bB_ (g := gb234) (o := .cells #[.int .i64 a1_0, .int .i64 a1_1, .int .i64 a1_2] 23 (0, 0)) (by (with_reducible repeat first | apply bN_ | apply bD_ | apply bA_); exact BK234.out) hb); have n2_ := a0_ (KeepBut.trans (by repeat (first | (with_reducible first | exact HK.out | apply KeepBut.set_ | apply keep_drewN | apply keep_drew | apply keep_alloc | refine keep_far ?_ GW234.out _) | exact HK.out)) (KeepBut.of_below hb g none) (.inl rfl)); have n3_ := a0_ (below_step (by repeat (first | (with_reducible first | exact HB.out | apply lA_ | apply lN_ | apply lD_ | refine lS_ ?_ (sG_ HI0.out) | refine lS_ ?_ GE234.out) | exact HB.out)) hb); clear HI0; clear BK234; clear HK; clear HB; have HI0 := n0_; have BK234 := n1_; have HK := n2_; have HB := n3_; clear n0_ n1_ n2_ n3_; (try clear hb); (try clear hb2); (try clear hk); (try clear hi)))
  repeat (go_quiet (first | ((with_reducible refine gate_dst (N := 3) rfl ?_); refine box_event ?hg (N := 3) ?hd (cs := #[.int .i64 a1_0, .int .i64 a1_1, .int .i64 a1_2]) (t := 23) ?hr ?_; (case hd => rfl); (case hg => rfl); (case hr => first | (go_simp; done) | (go_simp; rfl)); intro gb234 hg w6 hbox hb; have n0_ := a0_ (IsS62.below (by repeat (first | (with_reducible first | exact HI0.out | apply sA_ | apply sN_ | apply sD_) | exact HI0.out)) hb); have n1_ := a0_ (KeepBut.trans (by repeat (first | (with_reducible first | exact HK.out | apply KeepBut.set_ | apply keep_drewN | apply keep_drew | apply keep_alloc) | exact HK.out)) (KeepBut.of_below hb g none) (.inl rfl)); have n2_ := a0_ (below_step (by repeat (first | (with_reducible first | exact HB.out | apply lA_ | apply lN_ | apply lD_ | refine lS_ ?_ (sG_ HI0.out)) | exact HB.out)) hb); have n3_ := a0_ (hbox); have n4_ := a0_ ((by rw [hg]; exact (keep_size (w := w) (g := g) (row := none) (by repeat (first | (with_reducible first | exact HK.out | apply KeepBut.set_ | apply keep_drewN | apply keep_drew | apply keep_alloc) | exact HK.out))) : w.heap.size ≤ gb234)); have n5_ := a0_ ((Nat.le_trans HW0.out (by rw [hg]; exact (keep_size (w := w) (g := g) (row := none) (by repeat (first | (with_reducible first | exact HK.out | apply KeepBut.set_ | apply keep_drewN | apply keep_drew | apply keep_alloc) | exact HK.out))) : w.heap.size ≤ gb234) : w0.heap.size ≤ gb234)); have n6_ := a0_ ((by rw [hg]; exact Nat.ne_of_lt (IsS62.lt (show IsS62 w0 _ g s0_0 s0_1 s0_2 s0_3 s0_4 s0_5 s0_6 s0_7 s0_8 from by repeat (first | (with_reducible first | exact HI0.out | apply sA_ | apply sN_ | apply sD_) | exact HI0.out))) : g ≠ gb234)); have n7_ := a0_ ((by rw [hg]; exact Nat.ne_of_gt (IsS62.lt (show IsS62 w0 _ g s0_0 s0_1 s0_2 s0_3 s0_4 s0_5 s0_6 s0_7 s0_8 from by repeat (first | (with_reducible first | exact HI0.out | apply sA_ | apply sN_ | apply sD_) | exact HI0.out))) : gb234 ≠ g)); clear HI0; clear HK; clear HB; have HI0 := n0_; have HK := n1_; have HB := n2_; have BK234 := n3_; have GW234 := n4_; have GE234 := n5_; have NB0_234 := n6_; have NB234_0 := n7_; clear n0_ n1_ n2_ n3_ n4_ n5_ n6_ n7_; clear hb hbox hg; have hnb7 := NB234_0.out; have hnc7 := NB0_234.out; have hcz8_0 : w6.cell? ⟨gb234, 0, none⟩ = some (.int .i64 a1_0) := (bC_ BK234.out 0).trans rfl; have hcz8_1 : w6.cell? ⟨gb234, 1, none⟩ = some (.int .i64 a1_1) := (bC_ BK234.out 1).trans rfl; have hcz8_2 : w6.cell? ⟨gb234, 2, none⟩ = some (.int .i64 a1_2) := (bC_ BK234.out 2).trans rfl; have hfz8_0 := bF_ BK234.out 0; have hfz8_1 := bF_ BK234.out 1; have hfz8_2 := bF_ BK234.out 2) | (go_at_call 10; (with_reducible refine (date_Number.calls k a1_0 a1_1 a1_2 t235 t236 _ A3.out).mono ?_); rintro e w9 ⟨rfl, hb⟩; have n0_ := a0_ (IsS62.below (by repeat (first | (with_reducible first | exact HI0.out | apply sA_ | apply sN_ | apply sD_ | refine sF_ ?_ NB0_234.out _) | exact HI0.out)) hb); have n1_ := a0_ (bB_ (g := gb234) (o := .cells #[.int .i64 a1_0, .int .i64 a1_1, .int .i64 a1_2] 23 (0, 0)) (by (with_reducible repeat first | apply bN_ | apply bD_ | apply bA_); exact BK234.out) hb); have n2_ := a0_ (KeepBut.trans (by repeat (first | (with_reducible first | exact HK.out | apply KeepBut.set_ | apply keep_drewN | apply keep_drew | apply keep_alloc | refine keep_far ?_ GW234.out _) | exact HK.out)) (KeepBut.of_below hb g none) (.inl rfl)); have n3_ := a0_ (below_step (by repeat (first | (with_reducible first | exact HB.out | apply lA_ | apply lN_ | apply lD_ | refine lS_ ?_ (sG_ HI0.out) | refine lS_ ?_ GE234.out) | exact HB.out)) hb); clear HI0; clear BK234; clear HK; clear HB; have HI0 := n0_; have BK234 := n1_; have HK := n2_; have HB := n3_; clear n0_ n1_ n2_ n3_; (try clear hb); (try clear hb2); (try clear hk); (try clear hi))); go_upto_region 4 with (first | ((with_reducible refine gate_dst (N := 3) rfl ?_); refine box_event ?hg (N := 3) ?hd (cs := #[.int .i64 a1_0, .int .i64 a1_1, .int .i64 a1_2]) (t := 23) ?hr ?_; (case hd => rfl); (case hg => rfl); (case hr => first | (go_simp; done) | (go_simp; rfl)); intro gb234 hg w6 hbox hb; have n0_ := a0_ (IsS62.below (by repeat (first | (with_reducible first | exact HI0.out | apply sA_ | apply sN_ | apply sD_) | exact HI0.out)) hb); have n1_ := a0_ (KeepBut.trans (by repeat (first | (with_reducible first | exact HK.out | apply KeepBut.set_ | apply keep_drewN | apply keep_drew | apply keep_alloc) | exact HK.out)) (KeepBut.of_below hb g none) (.inl rfl)); have n2_ := a0_ (below_step (by repeat (first | (with_reducible first | exact HB.out | apply lA_ | apply lN_ | apply lD_ | refine lS_ ?_ (sG_ HI0.out)) | exact HB.out)) hb); have n3_ := a0_ (hbox); have n4_ := a0_ ((by rw [hg]; exact (keep_size (w := w) (g := g) (row := none) (by repeat (first | (with_reducible first | exact HK.out | apply KeepBut.set_ | apply keep_drewN | apply keep_drew | apply keep_alloc) | exact HK.out))) : w.heap.size ≤ gb234)); have n5_ := a0_ ((Nat.le_trans HW0.out (by rw [hg]; exact (keep_size (w := w) (g := g) (row := none) (by repeat (first | (with_reducible first | exact HK.out | apply KeepBut.set_ | apply keep_drewN | apply keep_drew | apply keep_alloc) | exact HK.out))) : w.heap.size ≤ gb234) : w0.heap.size ≤ gb234)); have n6_ := a0_ ((by rw [hg]; exact Nat.ne_of_lt (IsS62.lt (show IsS62 w0 _ g s0_0 s0_1 s0_2 s0_3 s0_4 s0_5 s0_6 s0_7 s0_8 from by repeat (first | (with_reducible first | exact HI0.out | apply sA_ | apply sN_ | apply sD_) | exact HI0.out))) : g ≠ gb234)); have n7_ := a0_ ((by rw [hg]; exact Nat.ne_of_gt (IsS62.lt (show IsS62 w0 _ g s0_0 s0_1 s0_2 s0_3 s0_4 s0_5 s0_6 s0_7 s0_8 from by repeat (first | (with_reducible first | exact HI0.out | apply sA_ | apply sN_ | apply sD_) | exact HI0.out))) : gb234 ≠ g)); clear HI0; clear HK; clear HB; have HI0 := n0_; have HK := n1_; have HB := n2_; have BK234 := n3_; have GW234 := n4_; have GE234 := n5_; have NB0_234 := n6_; have NB234_0 := n7_; clear n0_ n1_ n2_ n3_ n4_ n5_ n6_ n7_; clear hb hbox hg; have hnb7 := NB234_0.out; have hnc7 := NB0_234.out; have hcz8_0 : w6.cell? ⟨gb234, 0, none⟩ = some (.int .i64 a1_0) := (bC_ BK234.out 0).trans rfl; have hcz8_1 : w6.cell? ⟨gb234, 1, none⟩ = some (.int .i64 a1_1) := (bC_ BK234.out 1).trans rfl; have hcz8_2 : w6.cell? ⟨gb234, 2, none⟩ = some (.int .i64 a1_2) := (bC_ BK234.out 2).trans rfl; have hfz8_0 := bF_ BK234.out 0; have hfz8_1 := bF_ BK234.out 1; have hfz8_2 := bF_ BK234.out 2) | (go_at_call 10; (with_reducible refine (date_Number.calls k a1_0 a1_1 a1_2 t235 t236 _ A3.out).mono ?_); rintro e w9 ⟨rfl, hb⟩; have n0_ := a0_ (IsS62.below (by repeat (first | (with_reducible first | exact HI0.out | apply sA_ | apply sN_ | apply sD_ | refine sF_ ?_ NB0_234.out _) | exact HI0.out)) hb); have n1_ := a0_ (bB_ (g := gb234) (o := .cells #[.int .i64 a1_0, .int .i64 a1_1, .int .i64 a1_2] 23 (0, 0)) (by (with_reducible repeat first | apply bN_ | apply bD_ | apply bA_); exact BK234.out) hb); have n2_ := a0_ (KeepBut.trans (by repeat (first | (with_reducible first | exact HK.out | apply KeepBut.set_ | apply keep_drewN | apply keep_drew | apply keep_alloc | refine keep_far ?_ GW234.out _) | exact HK.out)) (KeepBut.of_below hb g none) (.inl rfl)); have n3_ := a0_ (below_step (by repeat (first | (with_reducible first | exact HB.out | apply lA_ | apply lN_ | apply lD_ | refine lS_ ?_ (sG_ HI0.out) | refine lS_ ?_ GE234.out) | exact HB.out)) hb); clear HI0; clear BK234; clear HK; clear HB; have HI0 := n0_; have BK234 := n1_; have HK := n2_; have HB := n3_; clear n0_ n1_ n2_ n3_; (try clear hb); (try clear hb2); (try clear hk); (try clear hi))))
  (try simp only [Act.put, zA_, zB_, zC_])
  go_cut [36] (fun v36 wc => ∃ (kq : Nat) (x36_4 : Bool), v36 = .bool x36_4 ∧ Aside0 (period_Year_Index.j0 kq t235 x36_4 s0_0 s0_1 s0_2 s0_3 s0_4 s0_5 s0_6 s0_7 s0_8 = some (r1, r2, r3, r4, r5, r6, r7, r8, r9, r10, r11)) ∧ Aside0 (kq ≤ k) ∧ Aside0 (wc.heap[gb234]? = some (.cells #[.int .i64 a1_0, .int .i64 a1_1, .int .i64 a1_2] 23 (0, 0))) ∧ Aside0 (IsS62 w0 wc g s0_0 s0_1 s0_2 s0_3 s0_4 s0_5 s0_6 s0_7 s0_8) ∧ Aside0 (KeepBut w wc g none) ∧ Aside0 (Below w0.heap.size w0 wc))
  case first =>
   have H := HC5.out
   clear HC5
   by_cases c10 : t235 < s0_7
   ·rw [if_pos c10] at H
    have c10b0 : decide (t235 < s0_7) = true := decide_eq_true c10
    clear c10
    (first | rw [c10b0] | (simp only [i64_w, i32_w]; rw [c10b0]) | skip)
    have H' := a0_ H
    clear H
    obtain ⟨HGz11, hgz11⟩ := HI0.out
    have hcz11_0 := cellS62_0 HGz11
    have hcz11_1 := cellS62_1 HGz11
    have hcz11_2 := cellS62_2 HGz11
    have hcz11_3 := cellS62_3 HGz11
    have hcz11_4 := cellS62_4 HGz11
    have hcz11_5 := cellS62_5 HGz11
    have hcz11_6 := cellS62_6 HGz11
    have hcz11_7 := cellS62_7 HGz11
    have hcz11_8 := cellS62_8 HGz11
    have hfz11_0 := bF_ HGz11 0
    have hfz11_1 := bF_ HGz11 1
    have hfz11_2 := bF_ HGz11 2
    have hfz11_3 := bF_ HGz11 3
    have hfz11_4 := bF_ HGz11 4
    have hfz11_5 := bF_ HGz11 5
    have hfz11_6 := bF_ HGz11 6
    have hfz11_7 := bF_ HGz11 7
    have hfz11_8 := bF_ HGz11 8
    clear HGz11 hgz11
    go_wp2
    repeat (go_quiet (fail); try go_wp2)
    go_meet
    case rel => exact ⟨_, (true), (by first | rfl | (simp; done) | (simp [*]; done)), H', ⟨by first | omega | exact Nat.le_refl _⟩, ⟨by (with_reducible repeat first | apply bN_ | apply bD_ | apply bA_); exact BK234.out⟩, ⟨by repeat (first | (with_reducible first | exact HI0.out | apply sA_ | apply sN_ | apply sD_ | refine sF_ ?_ NB0_234.out _) | exact HI0.out)⟩, ⟨by repeat (first | (with_reducible first | exact HK.out | apply KeepBut.set_ | apply keep_drewN | apply keep_drew | apply keep_alloc | refine keep_far ?_ GW234.out _) | exact HK.out)⟩, ⟨by repeat (first | (with_reducible first | exact HB.out | apply lA_ | apply lN_ | apply lD_ | refine lS_ ?_ (sG_ HI0.out) | refine lS_ ?_ GE234.out) | exact HB.out)⟩⟩
   ·rw [if_neg c10] at H
    have c10b0 : decide (t235 < s0_7) = false := decide_eq_false c10
    clear c10
    (first | rw [c10b0] | (simp only [i64_w, i32_w]; rw [c10b0]) | skip)
    have H' := a0_ H
    clear H
    obtain ⟨HGz12, hgz12⟩ := HI0.out
    have hcz12_0 := cellS62_0 HGz12
    have hcz12_1 := cellS62_1 HGz12
    have hcz12_2 := cellS62_2 HGz12
    have hcz12_3 := cellS62_3 HGz12
    have hcz12_4 := cellS62_4 HGz12
    have hcz12_5 := cellS62_5 HGz12
    have hcz12_6 := cellS62_6 HGz12
    have hcz12_7 := cellS62_7 HGz12
    have hcz12_8 := cellS62_8 HGz12
    have hfz12_0 := bF_ HGz12 0
    have hfz12_1 := bF_ HGz12 1
    have hfz12_2 := bF_ HGz12 2
    have hfz12_3 := bF_ HGz12 3
    have hfz12_4 := bF_ HGz12 4
    have hfz12_5 := bF_ HGz12 5
    have hfz12_6 := bF_ HGz12 6
    have hfz12_7 := bF_ HGz12 7
    have hfz12_8 := bF_ HGz12 8
    clear HGz12 hgz12
    go_wp2
    repeat (go_quiet (fail); try go_wp2)
    go_meet
    case rel => exact ⟨_, (decide (t235 ≥ (wrap64 (s0_7 + s0_8)))), (by first | rfl | (simp; done) | (simp [*]; done)), H', ⟨by first | omega | exact Nat.le_refl _⟩, ⟨by (with_reducible repeat first | apply bN_ | apply bD_ | apply bA_); exact BK234.out⟩, ⟨by repeat (first | (with_reducible first | exact HI0.out | apply sA_ | apply sN_ | apply sD_ | refine sF_ ?_ NB0_234.out _) | exact HI0.out)⟩, ⟨by repeat (first | (with_reducible first | exact HK.out | apply KeepBut.set_ | apply keep_drewN | apply keep_drew | apply keep_alloc | refine keep_far ?_ GW234.out _) | exact HK.out)⟩, ⟨by repeat (first | (with_reducible first | exact HB.out | apply lA_ | apply lN_ | apply lD_ | refine lS_ ?_ (sG_ HI0.out) | refine lS_ ?_ GE234.out) | exact HB.out)⟩⟩
  case rest =>
   clear HC5
   try clear c4
   try clear c4b0
   try clear c4b1
   try clear c10
   try clear c10b0
   try clear hcz11_0
   try clear hcz11_1
   try clear hcz11_2
   try clear hcz11_3
   try clear hcz11_4
   try clear hcz11_5
   try clear hcz11_6
   try clear hcz11_7
   try clear hcz11_8
   try clear hcz12_0
   try clear hcz12_1
   try clear hcz12_2
   try clear hcz12_3
   try clear hcz12_4
   try clear hcz12_5
   try clear hcz12_6
   try clear hcz12_7
   try clear hcz12_8
   try clear hcz8_0
   try clear hcz8_1
   try clear hcz8_2
   try clear hfz11_0
   try clear hfz11_1
   try clear hfz11_2
   try clear hfz11_3
   try clear hfz11_4
   try clear hfz11_5
   try clear hfz11_6
   try clear hfz11_7
   try clear hfz11_8
   try clear hfz12_0
   try clear hfz12_1
   try clear hfz12_2
   try clear hfz12_3
   try clear hfz12_4
   try clear hfz12_5
   try clear hfz12_6
   try clear hfz12_7
   try clear hfz12_8
   try clear hfz8_0
   try clear hfz8_1
   try clear hfz8_2
   obtain ⟨kq, x36_4, rfl, HA, HJ4, BK234, HI0, HK, HB⟩ := hcut
   cases kq with
   | zero => exact absurd HA.out (by simp [period_Year_Index.j0])
   | succ kj4 =>
    have H := HA.out
    clear HA
    simp only [period_Year_Index.j0] at H
    by_cases c13 : x36_4 = true
    ·subst c13
     have H1 : (some (0, 1, s0_0, s0_1, s0_2, s0_3, s0_4, s0_5, s0_6, s0_7, s0_8)) = some (r1, r2, r3, r4, r5, r6, r7, r8, r9, r10, r11) := by rw [if_pos rfl] at H; exact H
     clear H
     have H := H1
     clear H1
     simp only [Option.some.injEq, Prod.mk.injEq] at H
     obtain ⟨rfl, rfl, rfl, rfl, rfl, rfl, rfl, rfl, rfl, rfl, rfl⟩ := H
     go_wp2
     repeat (go_quiet (fail); try go_wp2)
     go_ret2
     exact ⟨by first | rfl | (simp [errW_none, errW_some] <;> rfl) | (simp [*, errW_none, errW_some] <;> rfl), by repeat (first | (with_reducible first | exact HI0.out | apply sA_ | apply sN_ | apply sD_ | refine sF_ ?_ NB0_234.out _) | exact HI0.out), by repeat (first | (with_reducible first | exact HB.out | apply lA_ | apply lN_ | apply lD_ | refine lS_ ?_ (sG_ HI0.out) | refine lS_ ?_ GE234.out) | exact HB.out), by repeat (first | (with_reducible first | exact HK.out | apply KeepBut.set_ | apply keep_drewN | apply keep_drew | apply keep_alloc | refine keep_far ?_ GW234.out _) | exact HK.out)⟩
    ·replace c13 := Bool.eq_false_iff.mpr c13
     subst c13
     have H1 : ((period_length.f s0_0).bind fun t237 => (if t237 > 0 then (if t237 = 0 then (none) else (some (wrap64 ((wrap64 (Int.tdiv (wrap64 (t235 - s0_7)) t237)) + 1), 0, s0_0, s0_1, s0_2, s0_3, s0_4, s0_5, s0_6, s0_7, s0_8))) else (period_Year_Index.l0 kj4 t235 1 s0_0 s0_1 s0_2 s0_3 s0_4 s0_5 s0_6 s0_7 s0_8))) = some (r1, r2, r3, r4, r5, r6, r7, r8, r9, r10, r11) := by rw [if_neg (show ¬ (false = true) by decide)] at H; exact H
     clear H
     have H := H1
     clear H1
     replace H := oB_ H
     obtain ⟨t237, A140, H⟩ := H
     replace H : (if t237 > 0 then (if t237 = 0 then (none) else (some (wrap64 ((wrap64 (Int.tdiv (wrap64 (t235 - s0_7)) t237)) + 1), 0, s0_0, s0_1, s0_2, s0_3, s0_4, s0_5, s0_6, s0_7, s0_8))) else (period_Year_Index.l0 kj4 t235 1 s0_0 s0_1 s0_2 s0_3 s0_4 s0_5 s0_6 s0_7 s0_8)) = some (r1, r2, r3, r4, r5, r6, r7, r8, r9, r10, r11) := H
     have A14 := a0_ A140
     clear A140
     by_cases c15 : t237 > 0
     ·rw [if_pos c15] at H
      have c15b0 : decide (0 < t237) = true := decide_eq_true c15
      clear c15
      by_cases c16 : t237 = 0
      ·rw [if_pos c16] at H
       exact absurd H (by simp)
      ·rw [if_neg c16] at H
       have c16b0 : (t237 == 0) = false := beq_eq_false_iff_ne.mpr c16
       have c16b1 : (t237 != 0) = true := bne_iff_ne.mpr c16
       simp only [Option.some.injEq, Prod.mk.injEq] at H
       obtain ⟨rfl, rfl, rfl, rfl, rfl, rfl, rfl, rfl, rfl, rfl, rfl⟩ := H
       obtain ⟨HGz17, hgz17⟩ := HI0.out
       have hcz17_0 := cellS62_0 HGz17
       have hcz17_1 := cellS62_1 HGz17
       have hcz17_2 := cellS62_2 HGz17
       have hcz17_3 := cellS62_3 HGz17
       have hcz17_4 := cellS62_4 HGz17
       have hcz17_5 := cellS62_5 HGz17
       have hcz17_6 := cellS62_6 HGz17
       have hcz17_7 := cellS62_7 HGz17
       have hcz17_8 := cellS62_8 HGz17
       have hfz17_0 := bF_ HGz17 0
       have hfz17_1 := bF_ HGz17 1
       have hfz17_2 := bF_ HGz17 2
       have hfz17_3 := bF_ HGz17 3
       have hfz17_4 := bF_ HGz17 4
       have hfz17_5 := bF_ HGz17 5
       have hfz17_6 := bF_ HGz17 6
       have hfz17_7 := bF_ HGz17 7
       have hfz17_8 := bF_ HGz17 8
       clear HGz17 hgz17
       go_wp2_with (first | (go_at_call 41; (with_reducible refine (period_length.calls s0_0 t237 _ A14.out).mono ?_); rintro e w' ⟨rfl, ⟨nd, rfl⟩⟩; (try first | exact ⟨rfl, _, World.drewN_drewN _ _ _⟩ | exact ⟨rfl, _, Eq.trans (World.drewN_drewN _ _ _) (congrArg (World.drewN _) (Nat.add_assoc _ _ _))⟩)))
       repeat (go_quiet (first | (go_at_call 41; (with_reducible refine (period_length.calls s0_0 t237 _ A14.out).mono ?_); rintro e w' ⟨rfl, ⟨nd, rfl⟩⟩; (try first | exact ⟨rfl, _, World.drewN_drewN _ _ _⟩ | exact ⟨rfl, _, Eq.trans (World.drewN_drewN _ _ _) (congrArg (World.drewN _) (Nat.add_assoc _ _ _))⟩))); try go_wp2_with (first | (go_at_call 41; (with_reducible refine (period_length.calls s0_0 t237 _ A14.out).mono ?_); rintro e w' ⟨rfl, ⟨nd, rfl⟩⟩; (try first | exact ⟨rfl, _, World.drewN_drewN _ _ _⟩ | exact ⟨rfl, _, Eq.trans (World.drewN_drewN _ _ _) (congrArg (World.drewN _) (Nat.add_assoc _ _ _))⟩))))
       go_ret2
       exact ⟨by first | rfl | (simp [errW_none, errW_some] <;> rfl) | (simp [*, errW_none, errW_some] <;> rfl), by repeat (first | (with_reducible first | exact HI0.out | apply sA_ | apply sN_ | apply sD_ | refine sF_ ?_ NB0_234.out _) | exact HI0.out), by repeat (first | (with_reducible first | exact HB.out | apply lA_ | apply lN_ | apply lD_ | refine lS_ ?_ (sG_ HI0.out) | refine lS_ ?_ GE234.out) | exact HB.out), by repeat (first | (with_reducible first | exact HK.out | apply KeepBut.set_ | apply keep_drewN | apply keep_drew | apply keep_alloc | refine keep_far ?_ GW234.out _) | exact HK.out)⟩
     ·rw [if_neg c15] at H
      have c15b0 : decide (0 < t237) = false := decide_eq_false c15
      clear c15
      have H' := a0_ H
      clear H
      obtain ⟨HGz18, hgz18⟩ := HI0.out
      have hcz18_0 := cellS62_0 HGz18
      have hcz18_1 := cellS62_1 HGz18
      have hcz18_2 := cellS62_2 HGz18
      have hcz18_3 := cellS62_3 HGz18
      have hcz18_4 := cellS62_4 HGz18
      have hcz18_5 := cellS62_5 HGz18
      have hcz18_6 := cellS62_6 HGz18
      have hcz18_7 := cellS62_7 HGz18
      have hcz18_8 := cellS62_8 HGz18
      have hfz18_0 := bF_ HGz18 0
      have hfz18_1 := bF_ HGz18 1
      have hfz18_2 := bF_ HGz18 2
      have hfz18_3 := bF_ HGz18 3
      have hfz18_4 := bF_ HGz18 4
      have hfz18_5 := bF_ HGz18 5
      have hfz18_6 := bF_ HGz18 6
      have hfz18_7 := bF_ HGz18 7
      have hfz18_8 := bF_ HGz18 8
      clear HGz18 hgz18
      go_wp2_with (first | (go_at_call 41; (with_reducible refine (period_length.calls s0_0 t237 _ A14.out).mono ?_); rintro e w' ⟨rfl, ⟨nd, rfl⟩⟩; (try first | exact ⟨rfl, _, World.drewN_drewN _ _ _⟩ | exact ⟨rfl, _, Eq.trans (World.drewN_drewN _ _ _) (congrArg (World.drewN _) (Nat.add_assoc _ _ _))⟩)))
      repeat (go_quiet (first | (go_at_call 41; (with_reducible refine (period_length.calls s0_0 t237 _ A14.out).mono ?_); rintro e w' ⟨rfl, ⟨nd, rfl⟩⟩; (try first | exact ⟨rfl, _, World.drewN_drewN _ _ _⟩ | exact ⟨rfl, _, Eq.trans (World.drewN_drewN _ _ _) (congrArg (World.drewN _) (Nat.add_assoc _ _ _))⟩))); try go_wp2_with (first | (go_at_call 41; (with_reducible refine (period_length.calls s0_0 t237 _ A14.out).mono ?_); rintro e w' ⟨rfl, ⟨nd, rfl⟩⟩; (try first | exact ⟨rfl, _, World.drewN_drewN _ _ _⟩ | exact ⟨rfl, _, Eq.trans (World.drewN_drewN _ _ _) (congrArg (World.drewN _) (Nat.add_assoc _ _ _))⟩))))
      go_loopg [9] kj4 (fun kq v9 w' => ∃ (x9_2 : Int) (x1000_2 : Int) (x1001_2 : Int) (x1002_2 : Int) (x1003_2 : Int) (x1004_2 : Int) (x1005_2 : Int) (x1006_2 : Int) (x1007_2 : Int) (x1008_2 : Int), v9 = .int .i64 x9_2 ∧ Aside0 (period_Year_Index.l0 kq t235 x9_2 x1000_2 x1001_2 x1002_2 x1003_2 x1004_2 x1005_2 x1006_2 x1007_2 x1008_2 = some (r1, r2, r3, r4, r5, r6, r7, r8, r9, r10, r11)) ∧ Aside0 (kq ≤ kj4) ∧ Aside0 (w'.heap[gb234]? = some (.cells #[.int .i64 a1_0, .int .i64 a1_1, .int .i64 a1_2] 23 (0, 0))) ∧ Aside0 (IsS62 w0 w' g x1000_2 x1001_2 x1002_2 x1003_2 x1004_2 x1005_2 x1006_2 x1007_2 x1008_2) ∧ Aside0 (KeepBut w w' g none) ∧ Aside0 (Below w0.heap.size w0 w'))
      case atStart => exact ⟨(1), (s0_0), (s0_1), (s0_2), (s0_3), (s0_4), (s0_5), (s0_6), (s0_7), (s0_8), (by first | rfl | (simp; done) | (simp [*]; done)), H', ⟨Nat.le_refl _⟩, ⟨by (with_reducible repeat first | apply bN_ | apply bD_ | apply bA_); exact BK234.out⟩, ⟨by repeat (first | (with_reducible first | exact HI0.out | apply sA_ | apply sN_ | apply sD_ | refine sF_ ?_ NB0_234.out _) | exact HI0.out)⟩, ⟨by repeat (first | (with_reducible first | exact HK.out | apply KeepBut.set_ | apply keep_drewN | apply keep_drew | apply keep_alloc | refine keep_far ?_ GW234.out _) | exact HK.out)⟩, ⟨by repeat (first | (with_reducible first | exact HB.out | apply lA_ | apply lN_ | apply lD_ | refine lS_ ?_ (sG_ HI0.out) | refine lS_ ?_ GE234.out) | exact HB.out)⟩⟩
      case round =>
       clear H'
       try clear c4
       try clear c4b0
       try clear c4b1
       try clear c10
       try clear c10b0
       try clear c13
       try clear c15
       try clear c15b0
       try clear c16
       try clear c16b0
       try clear c16b1
       try clear hcz11_0
       try clear hcz11_1
       try clear hcz11_2
       try clear hcz11_3
       try clear hcz11_4
       try clear hcz11_5
       try clear hcz11_6
       try clear hcz11_7
       try clear hcz11_8
       try clear hcz12_0
       try clear hcz12_1
       try clear hcz12_2
       try clear hcz12_3
       try clear hcz12_4
       try clear hcz12_5
       try clear hcz12_6
       try clear hcz12_7
       try clear hcz12_8
       try clear hcz17_0
       try clear hcz17_1
       try clear hcz17_2
       try clear hcz17_3
       try clear hcz17_4
       try clear hcz17_5
       try clear hcz17_6
       try clear hcz17_7
       try clear hcz17_8
       try clear hcz18_0
       try clear hcz18_1
       try clear hcz18_2
       try clear hcz18_3
       try clear hcz18_4
       try clear hcz18_5
       try clear hcz18_6
       try clear hcz18_7
       try clear hcz18_8
       try clear hcz8_0
       try clear hcz8_1
       try clear hcz8_2
       try clear hfz11_0
       try clear hfz11_1
       try clear hfz11_2
       try clear hfz11_3
       try clear hfz11_4
       try clear hfz11_5
       try clear hfz11_6
       try clear hfz11_7
       try clear hfz11_8
       try clear hfz12_0
       try clear hfz12_1
       try clear hfz12_2
       try clear hfz12_3
       try clear hfz12_4
       try clear hfz12_5
       try clear hfz12_6
       try clear hfz12_7
       try clear hfz12_8
       try clear hfz17_0
       try clear hfz17_1
       try clear hfz17_2
       try clear hfz17_3
       try clear hfz17_4
       try clear hfz17_5
       try clear hfz17_6
       try clear hfz17_7
       try clear hfz17_8
       try clear hfz18_0
       try clear hfz18_1
       try clear hfz18_2
       try clear hfz18_3
       try clear hfz18_4
       try clear hfz18_5
       try clear hfz18_6
       try clear hfz18_7
       try clear hfz18_8
       try clear hfz8_0
       try clear hfz8_1
       try clear hfz8_2
       obtain ⟨x9_2, x1000_2, x1001_2, x1002_2, x1003_2, x1004_2, x1005_2, x1006_2, x1007_2, x1008_2, rfl, HA, HK2, BK234, HI0, HK, HB⟩ := hrel
       cases gk with
       | zero => exact absurd HA.out (by simp [period_Year_Index.l0])
       | succ k2 =>
        have H := HA.out
        clear HA
        simp only [period_Year_Index.l0] at H
        replace H := oB_ H
        obtain ⟨⟨t238, t239, t240, t241, t242, t243, t244, t245, t246, t247⟩, A190, H⟩ := H
        replace H : (if x9_2 < t238 then ((period_Year_begin.f k2 t239 t240 t241 t242 t243 t244 t245 t246 t247 (wrap64 (x9_2 + 1))).bind fun bt248 => (if bt248.1 ≤ t235 then (period_Year_Index.l0 k2 t235 (wrap64 (x9_2 + 1)) bt248.2.1 bt248.2.2.1 bt248.2.2.2.1 bt248.2.2.2.2.1 bt248.2.2.2.2.2.1 bt248.2.2.2.2.2.2.1 bt248.2.2.2.2.2.2.2.1 bt248.2.2.2.2.2.2.2.2.1 bt248.2.2.2.2.2.2.2.2.2) else (some (x9_2, 0, bt248.2.1, bt248.2.2.1, bt248.2.2.2.1, bt248.2.2.2.2.1, bt248.2.2.2.2.2.1, bt248.2.2.2.2.2.2.1, bt248.2.2.2.2.2.2.2.1, bt248.2.2.2.2.2.2.2.2.1, bt248.2.2.2.2.2.2.2.2.2)))) else (some (x9_2, 0, t239, t240, t241, t242, t243, t244, t245, t246, t247))) = some (r1, r2, r3, r4, r5, r6, r7, r8, r9, r10, r11) := H
        have A19 := a0_ A190
        clear A190
        by_cases c20 : x9_2 < t238
        ·rw [if_pos c20] at H
         have c20b0 : decide (x9_2 < t238) = true := decide_eq_true c20
         clear c20
         replace H := oB_ H
         obtain ⟨⟨t248, t249, t250, t251, t252, t253, t254, t255, t256, t257⟩, A210, H⟩ := H
         replace H : (if t248 ≤ t235 then (period_Year_Index.l0 k2 t235 (wrap64 (x9_2 + 1)) t249 t250 t251 t252 t253 t254 t255 t256 t257) else (some (x9_2, 0, t249, t250, t251, t252, t253, t254, t255, t256, t257))) = some (r1, r2, r3, r4, r5, r6, r7, r8, r9, r10, r11) := H
         have A21 := a0_ A210
         clear A210
         by_cases c22 : t248 ≤ t235
         ·rw [if_pos c22] at H
          have c22b0 : decide (t248 ≤ t235) = true := decide_eq_true c22
          clear c22
          have H' := a0_ H
          clear H
          go_wp2_with (first | (go_at_call 24; (with_reducible refine (period_Year_Count.calls g x1000_2 x1001_2 x1002_2 x1003_2 x1004_2 x1005_2 x1006_2 x1007_2 x1008_2 t238 t239 t240 t241 t242 t243 t244 t245 t246 t247 w0 _ ?side1 ?side2 A19.out).mono ?_); (case side1 => repeat (first | (with_reducible first | exact HI0.out | apply sA_ | apply sN_ | apply sD_ | refine sF_ ?_ NB0_234.out _) | exact HI0.out)); (case side2 => repeat (first | (with_reducible first | exact HB.out | apply lA_ | apply lN_ | apply lD_ | refine lS_ ?_ (sG_ HI0.out) | refine lS_ ?_ GE234.out) | exact HB.out)); rintro e w23 ⟨rfl, hi, hb, hk⟩; have n0_ := a0_ (KeepBut.blk hk (g' := gb234) (o := .cells #[.int .i64 a1_0, .int .i64 a1_1, .int .i64 a1_2] 23 (0, 0)) (by (with_reducible repeat first | apply bN_ | apply bD_ | apply bA_); exact BK234.out) NB234_0.out (by simp)); have n1_ := a0_ (KeepBut.trans (by repeat (first | (with_reducible first | exact HK.out | apply KeepBut.set_ | apply keep_drewN | apply keep_drew | apply keep_alloc | refine keep_far ?_ GW234.out _) | exact HK.out)) hk (.inl rfl)); have n2_ := a0_ (hb); have n3_ := a0_ (hi); clear BK234; clear HK; clear HB; clear HI0; have BK234 := n0_; have HK := n1_; have HB := n2_; have HI0 := n3_; clear n0_ n1_ n2_ n3_; (try clear hb); (try clear hb2); (try clear hk); (try clear hi)) | (go_at_call 42; (with_reducible refine (period_Year_begin.calls k2 g t239 t240 t241 t242 t243 t244 t245 t246 t247 (wrap64 (x9_2 + 1)) t248 t249 t250 t251 t252 t253 t254 t255 t256 t257 w0 _ ?side1 ?side2 A21.out).mono ?_); (case side1 => repeat (first | (with_reducible first | exact HI0.out | apply sA_ | apply sN_ | apply sD_ | refine sF_ ?_ NB0_234.out _) | exact HI0.out)); (case side2 => repeat (first | (with_reducible first | exact HB.out | apply lA_ | apply lN_ | apply lD_ | refine lS_ ?_ (sG_ HI0.out) | refine lS_ ?_ GE234.out) | exact HB.out)); rintro e w24 ⟨rfl, hi, hb, hk⟩; have n0_ := a0_ (KeepBut.blk hk (g' := gb234) (o := .cells #[.int .i64 a1_0, .int .i64 a1_1, .int .i64 a1_2] 23 (0, 0)) (by (with_reducible repeat first | apply bN_ | apply bD_ | apply bA_); exact BK234.out) NB234_0.out (by simp)); have n1_ := a0_ (KeepBut.trans (by repeat (first | (with_reducible first | exact HK.out | apply KeepBut.set_ | apply keep_drewN | apply keep_drew | apply keep_alloc | refine keep_far ?_ GW234.out _) | exact HK.out)) hk (.inl rfl)); have n2_ := a0_ (hb); have n3_ := a0_ (hi); clear BK234; clear HK; clear HB; clear HI0; have BK234 := n0_; have HK := n1_; have HB := n2_; have HI0 := n3_; clear n0_ n1_ n2_ n3_; (try clear hb); (try clear hb2); (try clear hk); (try clear hi)))
          repeat (go_quiet (first | (go_at_call 24; (with_reducible refine (period_Year_Count.calls g x1000_2 x1001_2 x1002_2 x1003_2 x1004_2 x1005_2 x1006_2 x1007_2 x1008_2 t238 t239 t240 t241 t242 t243 t244 t245 t246 t247 w0 _ ?side1 ?side2 A19.out).mono ?_); (case side1 => repeat (first | (with_reducible first | exact HI0.out | apply sA_ | apply sN_ | apply sD_ | refine sF_ ?_ NB0_234.out _) | exact HI0.out)); (case side2 => repeat (first | (with_reducible first | exact HB.out | apply lA_ | apply lN_ | apply lD_ | refine lS_ ?_ (sG_ HI0.out) | refine lS_ ?_ GE234.out) | exact HB.out)); rintro e w23 ⟨rfl, hi, hb, hk⟩; have n0_ := a0_ (KeepBut.blk hk (g' := gb234) (o := .cells #[.int .i64 a1_0, .int .i64 a1_1, .int .i64 a1_2] 23 (0, 0)) (by (with_reducible repeat first | apply bN_ | apply bD_ | apply bA_); exact BK234.out) NB234_0.out (by simp)); have n1_ := a0_ (KeepBut.trans (by repeat (first | (with_reducible first | exact HK.out | apply KeepBut.set_ | apply keep_drewN | apply keep_drew | apply keep_alloc | refine keep_far ?_ GW234.out _) | exact HK.out)) hk (.inl rfl)); have n2_ := a0_ (hb); have n3_ := a0_ (hi); clear BK234; clear HK; clear HB; clear HI0; have BK234 := n0_; have HK := n1_; have HB := n2_; have HI0 := n3_; clear n0_ n1_ n2_ n3_; (try clear hb); (try clear hb2); (try clear hk); (try clear hi)) | (go_at_call 42; (with_reducible refine (period_Year_begin.calls k2 g t239 t240 t241 t242 t243 t244 t245 t246 t247 (wrap64 (x9_2 + 1)) t248 t249 t250 t251 t252 t253 t254 t255 t256 t257 w0 _ ?side1 ?side2 A21.out).mono ?_); (case side1 => repeat (first | (with_reducible first | exact HI0.out | apply sA_ | apply sN_ | apply sD_ | refine sF_ ?_ NB0_234.out _) | exact HI0.out)); (case side2 => repeat (first | (with_reducible first | exact HB.out | apply lA_ | apply lN_ | apply lD_ | refine lS_ ?_ (sG_ HI0.out) | refine lS_ ?_ GE234.out) | exact HB.out)); rintro e w24 ⟨rfl, hi, hb, hk⟩; have n0_ := a0_ (KeepBut.blk hk (g' := gb234) (o := .cells #[.int .i64 a1_0, .int .i64 a1_1, .int .i64 a1_2] 23 (0, 0)) (by (with_reducible repeat first | apply bN_ | apply bD_ | apply bA_); exact BK234.out) NB234_0.out (by simp)); have n1_ := a0_ (KeepBut.trans (by repeat (first | (with_reducible first | exact HK.out | apply KeepBut.set_ | apply keep_drewN | apply keep_drew | apply keep_alloc | refine keep_far ?_ GW234.out _) | exact HK.out)) hk (.inl rfl)); have n2_ := a0_ (hb); have n3_ := a0_ (hi); clear BK234; clear HK; clear HB; clear HI0; have BK234 := n0_; have HK := n1_; have HB := n2_; have HI0 := n3_; clear n0_ n1_ n2_ n3_; (try clear hb); (try clear hb2); (try clear hk); (try clear hi))); try go_wp2_with (first | (go_at_call 24; (with_reducible refine (period_Year_Count.calls g x1000_2 x1001_2 x1002_2 x1003_2 x1004_2 x1005_2 x1006_2 x1007_2 x1008_2 t238 t239 t240 t241 t242 t243 t244 t245 t246 t247 w0 _ ?side1 ?side2 A19.out).mono ?_); (case side1 => repeat (first | (with_reducible first | exact HI0.out | apply sA_ | apply sN_ | apply sD_ | refine sF_ ?_ NB0_234.out _) | exact HI0.out)); (case side2 => repeat (first | (with_reducible first | exact HB.out | apply lA_ | apply lN_ | apply lD_ | refine lS_ ?_ (sG_ HI0.out) | refine lS_ ?_ GE234.out) | exact HB.out)); rintro e w23 ⟨rfl, hi, hb, hk⟩; have n0_ := a0_ (KeepBut.blk hk (g' := gb234) (o := .cells #[.int .i64 a1_0, .int .i64 a1_1, .int .i64 a1_2] 23 (0, 0)) (by (with_reducible repeat first | apply bN_ | apply bD_ | apply bA_); exact BK234.out) NB234_0.out (by simp)); have n1_ := a0_ (KeepBut.trans (by repeat (first | (with_reducible first | exact HK.out | apply KeepBut.set_ | apply keep_drewN | apply keep_drew | apply keep_alloc | refine keep_far ?_ GW234.out _) | exact HK.out)) hk (.inl rfl)); have n2_ := a0_ (hb); have n3_ := a0_ (hi); clear BK234; clear HK; clear HB; clear HI0; have BK234 := n0_; have HK := n1_; have HB := n2_; have HI0 := n3_; clear n0_ n1_ n2_ n3_; (try clear hb); (try clear hb2); (try clear hk); (try clear hi)) | (go_at_call 42; (with_reducible refine (period_Year_begin.calls k2 g t239 t240 t241 t242 t243 t244 t245 t246 t247 (wrap64 (x9_2 + 1)) t248 t249 t250 t251 t252 t253 t254 t255 t256 t257 w0 _ ?side1 ?side2 A21.out).mono ?_); (case side1 => repeat (first | (with_reducible first | exact HI0.out | apply sA_ | apply sN_ | apply sD_ | refine sF_ ?_ NB0_234.out _) | exact HI0.out)); (case side2 => repeat (first | (with_reducible first | exact HB.out | apply lA_ | apply lN_ | apply lD_ | refine lS_ ?_ (sG_ HI0.out) | refine lS_ ?_ GE234.out) | exact HB.out)); rintro e w24 ⟨rfl, hi, hb, hk⟩; have n0_ := a0_ (KeepBut.blk hk (g' := gb234) (o := .cells #[.int .i64 a1_0, .int .i64 a1_1, .int .i64 a1_2] 23 (0, 0)) (by (with_reducible repeat first | apply bN_ | apply bD_ | apply bA_); exact BK234.out) NB234_0.out (by simp)); have n1_ := a0_ (KeepBut.trans (by repeat (first | (with_reducible first | exact HK.out | apply KeepBut.set_ | apply keep_drewN | apply keep_drew | apply keep_alloc | refine keep_far ?_ GW234.out _) | exact HK.out)) hk (.inl rfl)); have n2_ := a0_ (hb); have n3_ := a0_ (hi); clear BK234; clear HK; clear HB; clear HI0; have BK234 := n0_; have HK := n1_; have HB := n2_; have HI0 := n3_; clear n0_ n1_ n2_ n3_; (try clear hb); (try clear hb2); (try clear hk); (try clear hi))))
          go_roundg k2
          case measure => have := HJ4.out; have := HK2.out; omega
          case rel => exact ⟨(wrap64 (x9_2 + 1)), (t249), (t250), (t251), (t252), (t253), (t254), (t255), (t256), (t257), (by first | rfl | (simp; done) | (simp [*]; done)), H', ⟨by have := HJ4.out; have := HK2.out; omega⟩, ⟨by (with_reducible repeat first | apply bN_ | apply bD_ | apply bA_); exact BK234.out⟩, ⟨by repeat (first | (with_reducible first | exact HI0.out | apply sA_ | apply sN_ | apply sD_ | refine sF_ ?_ NB0_234.out _) | exact HI0.out)⟩, ⟨by repeat (first | (with_reducible first | exact HK.out | apply KeepBut.set_ | apply keep_drewN | apply keep_drew | apply keep_alloc | refine keep_far ?_ GW234.out _) | exact HK.out)⟩, ⟨by repeat (first | (with_reducible first | exact HB.out | apply lA_ | apply lN_ | apply lD_ | refine lS_ ?_ (sG_ HI0.out) | refine lS_ ?_ GE234.out) | exact HB.out)⟩⟩
         ·rw [if_neg c22] at H
          have c22b0 : decide (t248 ≤ t235) = false := decide_eq_false c22
          clear c22
          simp only [Option.some.injEq, Prod.mk.injEq] at H
          obtain ⟨rfl, rfl, rfl, rfl, rfl, rfl, rfl, rfl, rfl, rfl, rfl⟩ := H
          go_wp2_with (first | (go_at_call 24; (with_reducible refine (period_Year_Count.calls g x1000_2 x1001_2 x1002_2 x1003_2 x1004_2 x1005_2 x1006_2 x1007_2 x1008_2 t238 t239 t240 t241 t242 t243 t244 t245 t246 t247 w0 _ ?side1 ?side2 A19.out).mono ?_); (case side1 => repeat (first | (with_reducible first | exact HI0.out | apply sA_ | apply sN_ | apply sD_ | refine sF_ ?_ NB0_234.out _) | exact HI0.out)); (case side2 => repeat (first | (with_reducible first | exact HB.out | apply lA_ | apply lN_ | apply lD_ | refine lS_ ?_ (sG_ HI0.out) | refine lS_ ?_ GE234.out) | exact HB.out)); rintro e w25 ⟨rfl, hi, hb, hk⟩; have n0_ := a0_ (KeepBut.blk hk (g' := gb234) (o := .cells #[.int .i64 a1_0, .int .i64 a1_1, .int .i64 a1_2] 23 (0, 0)) (by (with_reducible repeat first | apply bN_ | apply bD_ | apply bA_); exact BK234.out) NB234_0.out (by simp)); have n1_ := a0_ (KeepBut.trans (by repeat (first | (with_reducible first | exact HK.out | apply KeepBut.set_ | apply keep_drewN | apply keep_drew | apply keep_alloc | refine keep_far ?_ GW234.out _) | exact HK.out)) hk (.inl rfl)); have n2_ := a0_ (hb); have n3_ := a0_ (hi); clear BK234; clear HK; clear HB; clear HI0; have BK234 := n0_; have HK := n1_; have HB := n2_; have HI0 := n3_; clear n0_ n1_ n2_ n3_; (try clear hb); (try clear hb2); (try clear hk); (try clear hi)) | (go_at_call 42; (with_reducible refine (period_Year_begin.calls k2 g t239 t240 t241 t242 t243 t244 t245 t246 t247 (wrap64 (x9_2 + 1)) t248 t249 t250 t251 t252 t253 t254 t255 t256 t257 w0 _ ?side1 ?side2 A21.out).mono ?_); (case side1 => repeat (first | (with_reducible first | exact HI0.out | apply sA_ | apply sN_ | apply sD_ | refine sF_ ?_ NB0_234.out _) | exact HI0.out)); (case side2 => repeat (first | (with_reducible first | exact HB.out | apply lA_ | apply lN_ | apply lD_ | refine lS_ ?_ (sG_ HI0.out) | refine lS_ ?_ GE234.out) | exact HB.out)); rintro e w26 ⟨rfl, hi, hb, hk⟩; have n0_ := a0_ (KeepBut.blk hk (g' := gb234) (o := .cells #[.int .i64 a1_0, .int .i64 a1_1, .int .i64 a1_2] 23 (0, 0)) (by (with_reducible repeat first | apply bN_ | apply bD_ | apply bA_); exact BK234.out) NB234_0.out (by simp)); have n1_ := a0_ (KeepBut.trans (by repeat (first | (with_reducible first | exact HK.out | apply KeepBut.set_ | apply keep_drewN | apply keep_drew | apply keep_alloc | refine keep_far ?_ GW234.out _) | exact HK.out)) hk (.inl rfl)); have n2_ := a0_ (hb); have n3_ := a0_ (hi); clear BK234; clear HK; clear HB; clear HI0; have BK234 := n0_; have HK := n1_; have HB := n2_; have HI0 := n3_; clear n0_ n1_ n2_ n3_; (try clear hb); (try clear hb2); (try clear hk); (try clear hi)))
          repeat (go_quiet (first | (go_at_call 24; (with_reducible refine (period_Year_Count.calls g x1000_2 x1001_2 x1002_2 x1003_2 x1004_2 x1005_2 x1006_2 x1007_2 x1008_2 t238 t239 t240 t241 t242 t243 t244 t245 t246 t247 w0 _ ?side1 ?side2 A19.out).mono ?_); (case side1 => repeat (first | (with_reducible first | exact HI0.out | apply sA_ | apply sN_ | apply sD_ | refine sF_ ?_ NB0_234.out _) | exact HI0.out)); (case side2 => repeat (first | (with_reducible first | exact HB.out | apply lA_ | apply lN_ | apply lD_ | refine lS_ ?_ (sG_ HI0.out) | refine lS_ ?_ GE234.out) | exact HB.out)); rintro e w25 ⟨rfl, hi, hb, hk⟩; have n0_ := a0_ (KeepBut.blk hk (g' := gb234) (o := .cells #[.int .i64 a1_0, .int .i64 a1_1, .int .i64 a1_2] 23 (0, 0)) (by (with_reducible repeat first | apply bN_ | apply bD_ | apply bA_); exact BK234.out) NB234_0.out (by simp)); have n1_ := a0_ (KeepBut.trans (by repeat (first | (with_reducible first | exact HK.out | apply KeepBut.set_ | apply keep_drewN | apply keep_drew | apply keep_alloc | refine keep_far ?_ GW234.out _) | exact HK.out)) hk (.inl rfl)); have n2_ := a0_ (hb); have n3_ := a0_ (hi); clear BK234; clear HK; clear HB; clear HI0; have BK234 := n0_; have HK := n1_; have HB := n2_; have HI0 := n3_; clear n0_ n1_ n2_ n3_; (try clear hb); (try clear hb2); (try clear hk); (try clear hi)) | (go_at_call 42; (with_reducible refine (period_Year_begin.calls k2 g t239 t240 t241 t242 t243 t244 t245 t246 t247 (wrap64 (x9_2 + 1)) t248 t249 t250 t251 t252 t253 t254 t255 t256 t257 w0 _ ?side1 ?side2 A21.out).mono ?_); (case side1 => repeat (first | (with_reducible first | exact HI0.out | apply sA_ | apply sN_ | apply sD_ | refine sF_ ?_ NB0_234.out _) | exact HI0.out)); (case side2 => repeat (first | (with_reducible first | exact HB.out | apply lA_ | apply lN_ | apply lD_ | refine lS_ ?_ (sG_ HI0.out) | refine lS_ ?_ GE234.out) | exact HB.out)); rintro e w26 ⟨rfl, hi, hb, hk⟩; have n0_ := a0_ (KeepBut.blk hk (g' := gb234) (o := .cells #[.int .i64 a1_0, .int .i64 a1_1, .int .i64 a1_2] 23 (0, 0)) (by (with_reducible repeat first | apply bN_ | apply bD_ | apply bA_); exact BK234.out) NB234_0.out (by simp)); have n1_ := a0_ (KeepBut.trans (by repeat (first | (with_reducible first | exact HK.out | apply KeepBut.set_ | apply keep_drewN | apply keep_drew | apply keep_alloc | refine keep_far ?_ GW234.out _) | exact HK.out)) hk (.inl rfl)); have n2_ := a0_ (hb); have n3_ := a0_ (hi); clear BK234; clear HK; clear HB; clear HI0; have BK234 := n0_; have HK := n1_; have HB := n2_; have HI0 := n3_; clear n0_ n1_ n2_ n3_; (try clear hb); (try clear hb2); (try clear hk); (try clear hi))); try go_wp2_with (first | (go_at_call 24; (with_reducible refine (period_Year_Count.calls g x1000_2 x1001_2 x1002_2 x1003_2 x1004_2 x1005_2 x1006_2 x1007_2 x1008_2 t238 t239 t240 t241 t242 t243 t244 t245 t246 t247 w0 _ ?side1 ?side2 A19.out).mono ?_); (case side1 => repeat (first | (with_reducible first | exact HI0.out | apply sA_ | apply sN_ | apply sD_ | refine sF_ ?_ NB0_234.out _) | exact HI0.out)); (case side2 => repeat (first | (with_reducible first | exact HB.out | apply lA_ | apply lN_ | apply lD_ | refine lS_ ?_ (sG_ HI0.out) | refine lS_ ?_ GE234.out) | exact HB.out)); rintro e w25 ⟨rfl, hi, hb, hk⟩; have n0_ := a0_ (KeepBut.blk hk (g' := gb234) (o := .cells #[.int .i64 a1_0, .int .i64 a1_1, .int .i64 a1_2] 23 (0, 0)) (by (with_reducible repeat first | apply bN_ | apply bD_ | apply bA_); exact BK234.out) NB234_0.out (by simp)); have n1_ := a0_ (KeepBut.trans (by repeat (first | (with_reducible first | exact HK.out | apply KeepBut.set_ | apply keep_drewN | apply keep_drew | apply keep_alloc | refine keep_far ?_ GW234.out _) | exact HK.out)) hk (.inl rfl)); have n2_ := a0_ (hb); have n3_ := a0_ (hi); clear BK234; clear HK; clear HB; clear HI0; have BK234 := n0_; have HK := n1_; have HB := n2_; have HI0 := n3_; clear n0_ n1_ n2_ n3_; (try clear hb); (try clear hb2); (try clear hk); (try clear hi)) | (go_at_call 42; (with_reducible refine (period_Year_begin.calls k2 g t239 t240 t241 t242 t243 t244 t245 t246 t247 (wrap64 (x9_2 + 1)) t248 t249 t250 t251 t252 t253 t254 t255 t256 t257 w0 _ ?side1 ?side2 A21.out).mono ?_); (case side1 => repeat (first | (with_reducible first | exact HI0.out | apply sA_ | apply sN_ | apply sD_ | refine sF_ ?_ NB0_234.out _) | exact HI0.out)); (case side2 => repeat (first | (with_reducible first | exact HB.out | apply lA_ | apply lN_ | apply lD_ | refine lS_ ?_ (sG_ HI0.out) | refine lS_ ?_ GE234.out) | exact HB.out)); rintro e w26 ⟨rfl, hi, hb, hk⟩; have n0_ := a0_ (KeepBut.blk hk (g' := gb234) (o := .cells #[.int .i64 a1_0, .int .i64 a1_1, .int .i64 a1_2] 23 (0, 0)) (by (with_reducible repeat first | apply bN_ | apply bD_ | apply bA_); exact BK234.out) NB234_0.out (by simp)); have n1_ := a0_ (KeepBut.trans (by repeat (first | (with_reducible first | exact HK.out | apply KeepBut.set_ | apply keep_drewN | apply keep_drew | apply keep_alloc | refine keep_far ?_ GW234.out _) | exact HK.out)) hk (.inl rfl)); have n2_ := a0_ (hb); have n3_ := a0_ (hi); clear BK234; clear HK; clear HB; clear HI0; have BK234 := n0_; have HK := n1_; have HB := n2_; have HI0 := n3_; clear n0_ n1_ n2_ n3_; (try clear hb); (try clear hb2); (try clear hk); (try clear hi))))
          go_ret2
          exact ⟨by first | rfl | (simp [errW_none, errW_some] <;> rfl) | (simp [*, errW_none, errW_some] <;> rfl), by repeat (first | (with_reducible first | exact HI0.out | apply sA_ | apply sN_ | apply sD_ | refine sF_ ?_ NB0_234.out _) | exact HI0.out), by repeat (first | (with_reducible first | exact HB.out | apply lA_ | apply lN_ | apply lD_ | refine lS_ ?_ (sG_ HI0.out) | refine lS_ ?_ GE234.out) | exact HB.out), by repeat (first | (with_reducible first | exact HK.out | apply KeepBut.set_ | apply keep_drewN | apply keep_drew | apply keep_alloc | refine keep_far ?_ GW234.out _) | exact HK.out)⟩
        ·rw [if_neg c20] at H
         have c20b0 : decide (x9_2 < t238) = false := decide_eq_false c20
         clear c20
         simp only [Option.some.injEq, Prod.mk.injEq] at H
         obtain ⟨rfl, rfl, rfl, rfl, rfl, rfl, rfl, rfl, rfl, rfl, rfl⟩ := H
         go_wp2_with (first | (go_at_call 24; (with_reducible refine (period_Year_Count.calls g x1000_2 x1001_2 x1002_2 x1003_2 x1004_2 x1005_2 x1006_2 x1007_2 x1008_2 t238 t239 t240 t241 t242 t243 t244 t245 t246 t247 w0 _ ?side1 ?side2 A19.out).mono ?_); (case side1 => repeat (first | (with_reducible first | exact HI0.out | apply sA_ | apply sN_ | apply sD_ | refine sF_ ?_ NB0_234.out _) | exact HI0.out)); (case side2 => repeat (first | (with_reducible first | exact HB.out | apply lA_ | apply lN_ | apply lD_ | refine lS_ ?_ (sG_ HI0.out) | refine lS_ ?_ GE234.out) | exact HB.out)); rintro e w27 ⟨rfl, hi, hb, hk⟩; have n0_ := a0_ (KeepBut.blk hk (g' := gb234) (o := .cells #[.int .i64 a1_0, .int .i64 a1_1, .int .i64 a1_2] 23 (0, 0)) (by (with_reducible repeat first | apply bN_ | apply bD_ | apply bA_); exact BK234.out) NB234_0.out (by simp)); have n1_ := a0_ (KeepBut.trans (by repeat (first | (with_reducible first | exact HK.out | apply KeepBut.set_ | apply keep_drewN | apply keep_drew | apply keep_alloc | refine keep_far ?_ GW234.out _) | exact HK.out)) hk (.inl rfl)); have n2_ := a0_ (hb); have n3_ := a0_ (hi); clear BK234; clear HK; clear HB; clear HI0; have BK234 := n0_; have HK := n1_; have HB := n2_; have HI0 := n3_; clear n0_ n1_ n2_ n3_; (try clear hb); (try clear hb2); (try clear hk); (try clear hi)))
         repeat (go_quiet (first | (go_at_call 24; (with_reducible refine (period_Year_Count.calls g x1000_2 x1001_2 x1002_2 x1003_2 x1004_2 x1005_2 x1006_2 x1007_2 x1008_2 t238 t239 t240 t241 t242 t243 t244 t245 t246 t247 w0 _ ?side1 ?side2 A19.out).mono ?_); (case side1 => repeat (first | (with_reducible first | exact HI0.out | apply sA_ | apply sN_ | apply sD_ | refine sF_ ?_ NB0_234.out _) | exact HI0.out)); (case side2 => repeat (first | (with_reducible first | exact HB.out | apply lA_ | apply lN_ | apply lD_ | refine lS_ ?_ (sG_ HI0.out) | refine lS_ ?_ GE234.out) | exact HB.out)); rintro e w27 ⟨rfl, hi, hb, hk⟩; have n0_ := a0_ (KeepBut.blk hk (g' := gb234) (o := .cells #[.int .i64 a1_0, .int .i64 a1_1, .int .i64 a1_2] 23 (0, 0)) (by (with_reducible repeat first | apply bN_ | apply bD_ | apply bA_); exact BK234.out) NB234_0.out (by simp)); have n1_ := a0_ (KeepBut.trans (by repeat (first | (with_reducible first | exact HK.out | apply KeepBut.set_ | apply keep_drewN | apply keep_drew | apply keep_alloc | refine keep_far ?_ GW234.out _) | exact HK.out)) hk (.inl rfl)); have n2_ := a0_ (hb); have n3_ := a0_ (hi); clear BK234; clear HK; clear HB; clear HI0; have BK234 := n0_; have HK := n1_; have HB := n2_; have HI0 := n3_; clear n0_ n1_ n2_ n3_; (try clear hb); (try clear hb2); (try clear hk); (try clear hi))); try go_wp2_with (first | (go_at_call 24; (with_reducible refine (period_Year_Count.calls g x1000_2 x1001_2 x1002_2 x1003_2 x1004_2 x1005_2 x1006_2 x1007_2 x1008_2 t238 t239 t240 t241 t242 t243 t244 t245 t246 t247 w0 _ ?side1 ?side2 A19.out).mono ?_); (case side1 => repeat (first | (with_reducible first | exact HI0.out | apply sA_ | apply sN_ | apply sD_ | refine sF_ ?_ NB0_234.out _) | exact HI0.out)); (case side2 => repeat (first | (with_reducible first | exact HB.out | apply lA_ | apply lN_ | apply lD_ | refine lS_ ?_ (sG_ HI0.out) | refine lS_ ?_ GE234.out) | exact HB.out)); rintro e w27 ⟨rfl, hi, hb, hk⟩; have n0_ := a0_ (KeepBut.blk hk (g' := gb234) (o := .cells #[.int .i64 a1_0, .int .i64 a1_1, .int .i64 a1_2] 23 (0, 0)) (by (with_reducible repeat first | apply bN_ | apply bD_ | apply bA_); exact BK234.out) NB234_0.out (by simp)); have n1_ := a0_ (KeepBut.trans (by repeat (first | (with_reducible first | exact HK.out | apply KeepBut.set_ | apply keep_drewN | apply keep_drew | apply keep_alloc | refine keep_far ?_ GW234.out _) | exact HK.out)) hk (.inl rfl)); have n2_ := a0_ (hb); have n3_ := a0_ (hi); clear BK234; clear HK; clear HB; clear HI0; have BK234 := n0_; have HK := n1_; have HB := n2_; have HI0 := n3_; clear n0_ n1_ n2_ n3_; (try clear hb); (try clear hb2); (try clear hk); (try clear hi))))
         go_ret2
         exact ⟨by first | rfl | (simp [errW_none, errW_some] <;> rfl) | (simp [*, errW_none, errW_some] <;> rfl), by repeat (first | (with_reducible first | exact HI0.out | apply sA_ | apply sN_ | apply sD_ | refine sF_ ?_ NB0_234.out _) | exact HI0.out), by repeat (first | (with_reducible first | exact HB.out | apply lA_ | apply lN_ | apply lD_ | refine lS_ ?_ (sG_ HI0.out) | refine lS_ ?_ GE234.out) | exact HB.out), by repeat (first | (with_reducible first | exact HK.out | apply KeepBut.set_ | apply keep_drewN | apply keep_drew | apply keep_alloc | refine keep_far ?_ GW234.out _) | exact HK.out)⟩
 ·rw [if_neg c4] at H
  have c4b0 : (t236 == 0) = false := beq_eq_false_iff_ne.mpr c4
  have c4b1 : (t236 != 0) = true := bne_iff_ne.mpr c4
  simp only [Option.some.injEq, Prod.mk.injEq] at H
  obtain ⟨rfl, rfl, rfl, rfl, rfl, rfl, rfl, rfl, rfl, rfl, rfl⟩ := H
  go_enter Try.func14, Try.ntmps14
  go_wp2_with (first | ((with_reducible refine gate_dst (N := 3) rfl ?_); refine box_event ?hg (N := 3) ?hd (cs := #[.int .i64 a1_0, .int .i64 a1_1, .int .i64 a1_2]) (t := 23) ?hr ?_; (case hd => rfl); (case hg => rfl); (case hr => first | (go_simp; done) | (go_simp; rfl)); intro gb234 hg w28 hbox hb; have n0_ := a0_ (IsS62.below (by repeat (first | (with_reducible first | exact HI0.out | apply sA_ | apply sN_ | apply sD_) | exact HI0.out)) hb); have n1_ := a0_ (KeepBut.trans (by repeat (first | (with_reducible first | exact HK.out | apply KeepBut.set_ | apply keep_drewN | apply keep_drew | apply keep_alloc) | exact HK.out)) (KeepBut.of_below hb g none) (.inl rfl)); have n2_ := a0_ (below_step (by repeat (first | (with_reducible first | exact HB.out | apply lA_ | apply lN_ | apply lD_ | refine lS_ ?_ (sG_ HI0.out)) | exact HB.out)) hb); have n3_ := a0_ (hbox); have n4_ := a0_ ((by rw [hg]; exact (keep_size (w := w) (g := g) (row := none) (by repeat (first | (with_reducible first | exact HK.out | apply KeepBut.set_ | apply keep_drewN | apply keep_drew | apply keep_alloc) | exact HK.out))) : w.heap.size ≤ gb234)); have n5_ := a0_ ((Nat.le_trans HW0.out (by rw [hg]; exact (keep_size (w := w) (g := g) (row := none) (by repeat (first | (with_reducible first | exact HK.out | apply KeepBut.set_ | apply keep_drewN | apply keep_drew | apply keep_alloc) | exact HK.out))) : w.heap.size ≤ gb234) : w0.heap.size ≤ gb234)); have n6_ := a0_ ((by rw [hg]; exact Nat.ne_of_lt (IsS62.lt (show IsS62 w0 _ g s0_0 s0_1 s0_2 s0_3 s0_4 s0_5 s0_6 s0_7 s0_8 from by repeat (first | (with_reducible first | exact HI0.out | apply sA_ | apply sN_ | apply sD_) | exact HI0.out))) : g ≠ gb234)); have n7_ := a0_ ((by rw [hg]; exact Nat.ne_of_gt (IsS62.lt (show IsS62 w0 _ g s0_0 s0_1 s0_2 s0_3 s0_4 s0_5 s0_6 s0_7 s0_8 from by repeat (first | (with_reducible first | exact HI0.out | apply sA_ | apply sN_ | apply sD_) | exact HI0.out))) : gb234 ≠ g)); clear HI0; clear HK; clear HB; have HI0 := n0_; have HK := n1_; have HB := n2_; have BK234 := n3_; have GW234 := n4_; have GE234 := n5_; have NB0_234 := n6_; have NB234_0 := n7_; clear n0_ n1_ n2_ n3_ n4_ n5_ n6_ n7_; clear hb hbox hg; have hnb29 := NB234_0.out; have hnc29 := NB0_234.out; have hcz30_0 : w28.cell? ⟨gb234, 0, none⟩ = some (.int .i64 a1_0) := (bC_ BK234.out 0).trans rfl; have hcz30_1 : w28.cell? ⟨gb234, 1, none⟩ = some (.int .i64 a1_1) := (bC_ BK234.out 1).trans rfl; have hcz30_2 : w28.cell? ⟨gb234, 2, none⟩ = some (.int .i64 a1_2) := (bC_ BK234.out 2).trans rfl; have hfz30_0 := bF_ BK234.out 0; have hfz30_1 := bF_ BK234.out 1; have hfz30_2 := bF_ BK234.out 2) | (go_at_call 10; (with_reducible refine (date_Number.calls k a1_0 a1_1 a1_2 t235 t236 _ A3.out).mono ?_); rintro e w31 ⟨rfl, hb⟩; have n0_ := a0_ (IsS62.below (by repeat (first | (with_reducible first | exact HI0.out | apply sA_ | apply sN_ | apply sD_ | refine sF_ ?_ NB0_234.out _) | exact HI0.out)) hb); have n1_ := a0_ (bB_ (g := gb234) (o := .cells #[.int .i64 a1_0, .int .i64 a1_1, .int .i64 a1_2] 23 (0, 0)) (by (with_reducible repeat first | apply bN_ | apply bD_ | apply bA_); exact BK234.out) hb); have n2_ := a0_ (KeepBut.trans (by repeat (first | (with_reducible first | exact HK.out | apply KeepBut.set_ | apply keep_drewN | apply keep_drew | apply keep_alloc | refine keep_far ?_ GW234.out _) | exact HK.out)) (KeepBut.of_below hb g none) (.inl rfl)); have n3_ := a0_ (below_step (by repeat (first | (with_reducible first | exact HB.out | apply lA_ | apply lN_ | apply lD_ | refine lS_ ?_ (sG_ HI0.out) | refine lS_ ?_ GE234.out) | exact HB.out)) hb); clear HI0; clear BK234; clear HK; clear HB; have HI0 := n0_; have BK234 := n1_; have HK := n2_; have HB := n3_; clear n0_ n1_ n2_ n3_; (try clear hb); (try clear hb2); (try clear hk); (try clear hi)))
  repeat (go_quiet (first | ((with_reducible refine gate_dst (N := 3) rfl ?_); refine box_event ?hg (N := 3) ?hd (cs := #[.int .i64 a1_0, .int .i64 a1_1, .int .i64 a1_2]) (t := 23) ?hr ?_; (case hd => rfl); (case hg => rfl); (case hr => first | (go_simp; done) | (go_simp; rfl)); intro gb234 hg w28 hbox hb; have n0_ := a0_ (IsS62.below (by repeat (first | (with_reducible first | exact HI0.out | apply sA_ | apply sN_ | apply sD_) | exact HI0.out)) hb); have n1_ := a0_ (KeepBut.trans (by repeat (first | (with_reducible first | exact HK.out | apply KeepBut.set_ | apply keep_drewN | apply keep_drew | apply keep_alloc) | exact HK.out)) (KeepBut.of_below hb g none) (.inl rfl)); have n2_ := a0_ (below_step (by repeat (first | (with_reducible first | exact HB.out | apply lA_ | apply lN_ | apply lD_ | refine lS_ ?_ (sG_ HI0.out)) | exact HB.out)) hb); have n3_ := a0_ (hbox); have n4_ := a0_ ((by rw [hg]; exact (keep_size (w := w) (g := g) (row := none) (by repeat (first | (with_reducible first | exact HK.out | apply KeepBut.set_ | apply keep_drewN | apply keep_drew | apply keep_alloc) | exact HK.out))) : w.heap.size ≤ gb234)); have n5_ := a0_ ((Nat.le_trans HW0.out (by rw [hg]; exact (keep_size (w := w) (g := g) (row := none) (by repeat (first | (with_reducible first | exact HK.out | apply KeepBut.set_ | apply keep_drewN | apply keep_drew | apply keep_alloc) | exact HK.out))) : w.heap.size ≤ gb234) : w0.heap.size ≤ gb234)); have n6_ := a0_ ((by rw [hg]; exact Nat.ne_of_lt (IsS62.lt (show IsS62 w0 _ g s0_0 s0_1 s0_2 s0_3 s0_4 s0_5 s0_6 s0_7 s0_8 from by repeat (first | (with_reducible first | exact HI0.out | apply sA_ | apply sN_ | apply sD_) | exact HI0.out))) : g ≠ gb234)); have n7_ := a0_ ((by rw [hg]; exact Nat.ne_of_gt (IsS62.lt (show IsS62 w0 _ g s0_0 s0_1 s0_2 s0_3 s0_4 s0_5 s0_6 s0_7 s0_8 from by repeat (first | (with_reducible first | exact HI0.out | apply sA_ | apply sN_ | apply sD_) | exact HI0.out))) : gb234 ≠ g)); clear HI0; clear HK; clear HB; have HI0 := n0_; have HK := n1_; have HB := n2_; have BK234 := n3_; have GW234 := n4_; have GE234 := n5_; have NB0_234 := n6_; have NB234_0 := n7_; clear n0_ n1_ n2_ n3_ n4_ n5_ n6_ n7_; clear hb hbox hg; have hnb29 := NB234_0.out; have hnc29 := NB0_234.out; have hcz30_0 : w28.cell? ⟨gb234, 0, none⟩ = some (.int .i64 a1_0) := (bC_ BK234.out 0).trans rfl; have hcz30_1 : w28.cell? ⟨gb234, 1, none⟩ = some (.int .i64 a1_1) := (bC_ BK234.out 1).trans rfl; have hcz30_2 : w28.cell? ⟨gb234, 2, none⟩ = some (.int .i64 a1_2) := (bC_ BK234.out 2).trans rfl; have hfz30_0 := bF_ BK234.out 0; have hfz30_1 := bF_ BK234.out 1; have hfz30_2 := bF_ BK234.out 2) | (go_at_call 10; (with_reducible refine (date_Number.calls k a1_0 a1_1 a1_2 t235 t236 _ A3.out).mono ?_); rintro e w31 ⟨rfl, hb⟩; have n0_ := a0_ (IsS62.below (by repeat (first | (with_reducible first | exact HI0.out | apply sA_ | apply sN_ | apply sD_ | refine sF_ ?_ NB0_234.out _) | exact HI0.out)) hb); have n1_ := a0_ (bB_ (g := gb234) (o := .cells #[.int .i64 a1_0, .int .i64 a1_1, .int .i64 a1_2] 23 (0, 0)) (by (with_reducible repeat first | apply bN_ | apply bD_ | apply bA_); exact BK234.out) hb); have n2_ := a0_ (KeepBut.trans (by repeat (first | (with_reducible first | exact HK.out | apply KeepBut.set_ | apply keep_drewN | apply keep_drew | apply keep_alloc | refine keep_far ?_ GW234.out _) | exact HK.out)) (KeepBut.of_below hb g none) (.inl rfl)); have n3_ := a0_ (below_step (by repeat (first | (with_reducible first | exact HB.out | apply lA_ | apply lN_ | apply lD_ | refine lS_ ?_ (sG_ HI0.out) | refine lS_ ?_ GE234.out) | exact HB.out)) hb); clear HI0; clear BK234; clear HK; clear HB; have HI0 := n0_; have BK234 := n1_; have HK := n2_; have HB := n3_; clear n0_ n1_ n2_ n3_; (try clear hb); (try clear hb2); (try clear hk); (try clear hi))); try go_wp2_with (first | ((with_reducible refine gate_dst (N := 3) rfl ?_); refine box_event ?hg (N := 3) ?hd (cs := #[.int .i64 a1_0, .int .i64 a1_1, .int .i64 a1_2]) (t := 23) ?hr ?_; (case hd => rfl); (case hg => rfl); (case hr => first | (go_simp; done) | (go_simp; rfl)); intro gb234 hg w28 hbox hb; have n0_ := a0_ (IsS62.below (by repeat (first | (with_reducible first | exact HI0.out | apply sA_ | apply sN_ | apply sD_) | exact HI0.out)) hb); have n1_ := a0_ (KeepBut.trans (by repeat (first | (with_reducible first | exact HK.out | apply KeepBut.set_ | apply keep_drewN | apply keep_drew | apply keep_alloc) | exact HK.out)) (KeepBut.of_below hb g none) (.inl rfl)); have n2_ := a0_ (below_step (by repeat (first | (with_reducible first | exact HB.out | apply lA_ | apply lN_ | apply lD_ | refine lS_ ?_ (sG_ HI0.out)) | exact HB.out)) hb); have n3_ := a0_ (hbox); have n4_ := a0_ ((by rw [hg]; exact (keep_size (w := w) (g := g) (row := none) (by repeat (first | (with_reducible first | exact HK.out | apply KeepBut.set_ | apply keep_drewN | apply keep_drew | apply keep_alloc) | exact HK.out))) : w.heap.size ≤ gb234)); have n5_ := a0_ ((Nat.le_trans HW0.out (by rw [hg]; exact (keep_size (w := w) (g := g) (row := none) (by repeat (first | (with_reducible first | exact HK.out | apply KeepBut.set_ | apply keep_drewN | apply keep_drew | apply keep_alloc) | exact HK.out))) : w.heap.size ≤ gb234) : w0.heap.size ≤ gb234)); have n6_ := a0_ ((by rw [hg]; exact Nat.ne_of_lt (IsS62.lt (show IsS62 w0 _ g s0_0 s0_1 s0_2 s0_3 s0_4 s0_5 s0_6 s0_7 s0_8 from by repeat (first | (with_reducible first | exact HI0.out | apply sA_ | apply sN_ | apply sD_) | exact HI0.out))) : g ≠ gb234)); have n7_ := a0_ ((by rw [hg]; exact Nat.ne_of_gt (IsS62.lt (show IsS62 w0 _ g s0_0 s0_1 s0_2 s0_3 s0_4 s0_5 s0_6 s0_7 s0_8 from by repeat (first | (with_reducible first | exact HI0.out | apply sA_ | apply sN_ | apply sD_) | exact HI0.out))) : gb234 ≠ g)); clear HI0; clear HK; clear HB; have HI0 := n0_; have HK := n1_; have HB := n2_; have BK234 := n3_; have GW234 := n4_; have GE234 := n5_; have NB0_234 := n6_; have NB234_0 := n7_; clear n0_ n1_ n2_ n3_ n4_ n5_ n6_ n7_; clear hb hbox hg; have hnb29 := NB234_0.out; have hnc29 := NB0_234.out; have hcz30_0 : w28.cell? ⟨gb234, 0, none⟩ = some (.int .i64 a1_0) := (bC_ BK234.out 0).trans rfl; have hcz30_1 : w28.cell? ⟨gb234, 1, none⟩ = some (.int .i64 a1_1) := (bC_ BK234.out 1).trans rfl; have hcz30_2 : w28.cell? ⟨gb234, 2, none⟩ = some (.int .i64 a1_2) := (bC_ BK234.out 2).trans rfl; have hfz30_0 := bF_ BK234.out 0; have hfz30_1 := bF_ BK234.out 1; have hfz30_2 := bF_ BK234.out 2) | (go_at_call 10; (with_reducible refine (date_Number.calls k a1_0 a1_1 a1_2 t235 t236 _ A3.out).mono ?_); rintro e w31 ⟨rfl, hb⟩; have n0_ := a0_ (IsS62.below (by repeat (first | (with_reducible first | exact HI0.out | apply sA_ | apply sN_ | apply sD_ | refine sF_ ?_ NB0_234.out _) | exact HI0.out)) hb); have n1_ := a0_ (bB_ (g := gb234) (o := .cells #[.int .i64 a1_0, .int .i64 a1_1, .int .i64 a1_2] 23 (0, 0)) (by (with_reducible repeat first | apply bN_ | apply bD_ | apply bA_); exact BK234.out) hb); have n2_ := a0_ (KeepBut.trans (by repeat (first | (with_reducible first | exact HK.out | apply KeepBut.set_ | apply keep_drewN | apply keep_drew | apply keep_alloc | refine keep_far ?_ GW234.out _) | exact HK.out)) (KeepBut.of_below hb g none) (.inl rfl)); have n3_ := a0_ (below_step (by repeat (first | (with_reducible first | exact HB.out | apply lA_ | apply lN_ | apply lD_ | refine lS_ ?_ (sG_ HI0.out) | refine lS_ ?_ GE234.out) | exact HB.out)) hb); clear HI0; clear BK234; clear HK; clear HB; have HI0 := n0_; have BK234 := n1_; have HK := n2_; have HB := n3_; clear n0_ n1_ n2_ n3_; (try clear hb); (try clear hb2); (try clear hk); (try clear hi))))
  go_ret2
  exact ⟨by first | rfl | (simp [errW_none, errW_some] <;> rfl) | (simp [*, errW_none, errW_some] <;> rfl), by repeat (first | (with_reducible first | exact HI0.out | apply sA_ | apply sN_ | apply sD_ | refine sF_ ?_ NB0_234.out _) | exact HI0.out), by repeat (first | (with_reducible first | exact HB.out | apply lA_ | apply lN_ | apply lD_ | refine lS_ ?_ (sG_ HI0.out) | refine lS_ ?_ GE234.out) | exact HB.out), by repeat (first | (with_reducible first | exact HK.out | apply KeepBut.set_ | apply keep_drewN | apply keep_drew | apply keep_alloc | refine keep_far ?_ GW234.out _) | exact HK.out)⟩

end Go.Proofs.Ytojinnnckfimhaa.X
