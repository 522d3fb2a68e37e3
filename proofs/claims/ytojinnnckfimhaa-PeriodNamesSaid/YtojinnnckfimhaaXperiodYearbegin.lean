-- laid by the session's own program (xprint.py) out of Lean's print of the program; Lean checks it
import Derived.Test.YtojinnnckfimhaaX0
import Derived.Test.YtojinnnckfimhaaXperiodNominal
import Derived.Test.YtojinnnckfimhaaXdateMonths
import Derived.Test.YtojinnnckfimhaaXperiodNewA
import Derived.Test.YtojinnnckfimhaaXperiodlength
namespace Go.Proofs.Ytojinnnckfimhaa.X
open Go.RowKit Go.Proofs.YtojinnnckfimhaaW.PrintWords Go.Proofs.YtojinnnckfimhaaW.PrintLast
set_option linter.unusedVariables false
set_option linter.unusedSimpArgs false

/-! ### period_Year_begin: function 42 -/
def period_Year_begin.j0 : Nat → Int → Bool → Int → Int → Int → Int → Int → Int → Int → Int → Int → Int → Int → Int → Option (Int × Int × Int × Int × Int × Int × Int × Int × Int × Int)
 | 0, _, _, _, _, _, _, _, _, _, _, _, _, _, _ => none
 | k + 1, x1, x52, x1000, x1001, x1002, x1003, x1004, x1005, x1006, x1007, x1008, x227000, x227001, x227002 => if x52 = true then ((period_short.f k x1001 x1002 x1003 (wrap64 (x1 - 1))).bind fun bt227 => ((date_Number.f k bt227.1 bt227.2.1 bt227.2.2).bind fun bt230 => (some (bt230.1, x1000, x1001, x1002, x1003, x1004, x1005, x1006, x1007, x1008)))) else ((date_Number.f k x227000 x227001 x227002).bind fun bt232 => (some (bt232.1, x1000, x1001, x1002, x1003, x1004, x1005, x1006, x1007, x1008)))
def period_Year_begin.f (k : Nat) (s0_0 : Int) (s0_1 : Int) (s0_2 : Int) (s0_3 : Int) (s0_4 : Int) (s0_5 : Int) (s0_6 : Int) (s0_7 : Int) (s0_8 : Int) (a1 : Int) : Option (Int × Int × Int × Int × Int × Int × Int × Int × Int × Int) := (period_length.f s0_0).bind fun t221 => (if t221 > 0 then (some (wrap64 (s0_7 + (mn (wrap64 (t221 * (wrap64 (a1 - 1)))) s0_8)), s0_0, s0_1, s0_2, s0_3, s0_4, s0_5, s0_6, s0_7, s0_8)) else ((date_Months.f k s0_1 s0_2 s0_3 (wrap64 (a1 - 1))).bind fun bt222 => (if bt222.2.2.2 = 0 then (period_Year_begin.j0 k a1 (bt222.2.2.1 != s0_3) s0_0 s0_1 s0_2 s0_3 s0_4 s0_5 s0_6 s0_7 s0_8 bt222.1 bt222.2.1 bt222.2.2.1) else (period_Year_begin.j0 k a1 true s0_0 s0_1 s0_2 s0_3 s0_4 s0_5 s0_6 s0_7 s0_8 bt222.1 bt222.2.1 bt222.2.2.1))))
set_option maxHeartbeats 8000000 in
set_option maxRecDepth 100000 in
theorem period_Year_begin.calls (k : Nat) (g : Nat) (s0_0 : Int) (s0_1 : Int) (s0_2 : Int) (s0_3 : Int) (s0_4 : Int) (s0_5 : Int) (s0_6 : Int) (s0_7 : Int) (s0_8 : Int) (a1 : Int) (r1 : Int) (r2 : Int) (r3 : Int) (r4 : Int) (r5 : Int) (r6 : Int) (r7 : Int) (r8 : Int) (r9 : Int) (r10 : Int) (w0 w : World) (hI : IsS62 w0 w g s0_0 s0_1 s0_2 s0_3 s0_4 s0_5 s0_6 s0_7 s0_8) (hB : Below w0.heap.size w0 w) (h : period_Year_begin.f k s0_0 s0_1 s0_2 s0_3 s0_4 s0_5 s0_6 s0_7 s0_8 a1 = some (r1, r2, r3, r4, r5, r6, r7, r8, r9, r10)) :
  Calls Try.prog 42 #[.pointer (some ⟨g, 0, none⟩), .int .i64 a1] w fun e w' => e = .returned (.int .i64 r1) ∧ IsS62 w0 w' g r2 r3 r4 r5 r6 r7 r8 r9 r10 ∧ Below w0.heap.size w0 w' ∧ KeepBut w w' g none := by
 have hu23 := Try.underlying23
 have HI0 := a0_ hI
 have HK := a0_ (KeepBut.refl w g none)
 have HL := a0_ hB.size
 clear hI
 have HW0 := a0_ hB.size
 have HB := a0_ hB
 clear hB
 have H : ((period_length.f s0_0).bind fun t221 => (if t221 > 0 then (some (wrap64 (s0_7 + (mn (wrap64 (t221 * (wrap64 (a1 - 1)))) s0_8)), s0_0, s0_1, s0_2, s0_3, s0_4, s0_5, s0_6, s0_7, s0_8)) else ((date_Months.f k s0_1 s0_2 s0_3 (wrap64 (a1 - 1))).bind fun bt222 => (if bt222.2.2.2 = 0 then (period_Year_begin.j0 k a1 (bt222.2.2.1 != s0_3) s0_0 s0_1 s0_2 s0_3 s0_4 s0_5 s0_6 s0_7 s0_8 bt222.1 bt222.2.1 bt222.2.2.1) else (period_Year_begin.j0 k a1 true s0_0 s0_1 s0_2 s0_3 s0_4 s0_5 s0_6 s0_7 s0_8 bt222.1 bt222.2.1 bt222.2.2.1))))) = some (r1, r2, r3, r4, r5, r6, r7, r8, r9, r10) := h
 clear h
 replace H := oB_ H
 obtain ⟨t221, A30, H⟩ := H
 replace H : (if t221 > 0 then (some (wrap64 (s0_7 + (mn (wrap64 (t221 * (wrap64 (a1 - 1)))) s0_8)), s0_0, s0_1, s0_2, s0_3, s0_4, s0_5, s0_6, s0_7, s0_8)) else ((date_Months.f k s0_1 s0_2 s0_3 (wrap64 (a1 - 1))).bind fun bt222 => (if bt222.2.2.2 = 0 then (period_Year_begin.j0 k a1 (bt222.2.2.1 != s0_3) s0_0 s0_1 s0_2 s0_3 s0_4 s0_5 s0_6 s0_7 s0_8 bt222.1 bt222.2.1 bt222.2.2.1) else (period_Year_begin.j0 k a1 true s0_0 s0_1 s0_2 s0_3 s0_4 s0_5 s0_6 s0_7 s0_8 bt222.1 bt222.2.1 bt222.2.2.1)))) = some (r1, r2, r3, r4, r5, r6, r7, r8, r9, r10) := H
 have A3 := a0_ A30
 clear A30
 by_cases c4 : t221 > 0
 ·rw [if_pos c4] at H
  have c4b0 : decide (0 < t221) = true := decide_eq_true c4
  clear c4
  obtain ⟨ji5, hji5⟩ : ∃ j_ : Int, (mn (wrap64 (t221 * (wrap64 (a1 - 1)))) s0_8) = j_ := ⟨_, rfl⟩
  replace H : (some (wrap64 (s0_7 + (ji5)), s0_0, s0_1, s0_2, s0_3, s0_4, s0_5, s0_6, s0_7, s0_8)) = some (r1, r2, r3, r4, r5, r6, r7, r8, r9, r10) := by first | (rw [hji5] at H; exact H) | (simp only [hji5] at H ⊢; exact H)
  (try rw [hji5] at A3)
  have hji5_ : (if s0_8 < (wrap64 (t221 * (wrap64 (a1 - 1)))) then s0_8 else (wrap64 (t221 * (wrap64 (a1 - 1))))) = ji5 := hji5
  simp only [Option.some.injEq, Prod.mk.injEq] at H
  obtain ⟨rfl, rfl, rfl, rfl, rfl, rfl, rfl, rfl, rfl, rfl⟩ := H
  obtain ⟨HGz6, hgz6⟩ := HI0.out
  have hcz6_0 := cellS62_0 HGz6
  have hcz6_1 := cellS62_1 HGz6
  have hcz6_2 := cellS62_2 HGz6
  have hcz6_3 := cellS62_3 HGz6
  have hcz6_4 := cellS62_4 HGz6
  have hcz6_5 := cellS62_5 HGz6
  have hcz6_6 := cellS62_6 HGz6
  have hcz6_7 := cellS62_7 HGz6
  have hcz6_8 := cellS62_8 HGz6
  have hfz6_0 := bF_ HGz6 0
  have hfz6_1 := bF_ HGz6 1
  have hfz6_2 := bF_ HGz6 2
  have hfz6_3 := bF_ HGz6 3
  have hfz6_4 := bF_ HGz6 4
  have hfz6_5 := bF_ HGz6 5
  have hfz6_6 := bF_ HGz6 6
  have hfz6_7 := bF_ HGz6 7
  have hfz6_8 := bF_ HGz6 8
  clear HGz6 hgz6
  go_enter Try.func42, Try.ntmps42
  go_wp2_with (first | (go_at_call 41; (with_reducible refine (period_length.calls s0_0 t221 _ A3.out).mono ?_); rintro e w' ⟨rfl, ⟨nd, rfl⟩⟩; (try first | exact ⟨rfl, _, World.drewN_drewN _ _ _⟩ | exact ⟨rfl, _, Eq.trans (World.drewN_drewN _ _ _) (congrArg (World.drewN _) (Nat.add_assoc _ _ _))⟩)))
  repeat (go_quiet (first | (go_at_call 41; (with_reducible refine (period_length.calls s0_0 t221 _ A3.out).mono ?_); rintro e w' ⟨rfl, ⟨nd, rfl⟩⟩; (try first | exact ⟨rfl, _, World.drewN_drewN _ _ _⟩ | exact ⟨rfl, _, Eq.trans (World.drewN_drewN _ _ _) (congrArg (World.drewN _) (Nat.add_assoc _ _ _))⟩))); try go_wp2_with (first | (go_at_call 41; (with_reducible refine (period_length.calls s0_0 t221 _ A3.out).mono ?_); rintro e w' ⟨rfl, ⟨nd, rfl⟩⟩; (try first | exact ⟨rfl, _, World.drewN_drewN _ _ _⟩ | exact ⟨rfl, _, Eq.trans (World.drewN_drewN _ _ _) (congrArg (World.drewN _) (Nat.add_assoc _ _ _))⟩))))
  go_ret
  exact ⟨by first | rfl | (simp [errW_none, errW_some] <;> rfl) | (simp only [← hji5]; first | rfl | (simp [errW_none, errW_some] <;> rfl)) | (simp [*, errW_none, errW_some] <;> rfl), by repeat (first | (with_reducible first | exact HI0.out | apply sA_ | apply sN_ | apply sD_) | exact HI0.out), by repeat (first | (with_reducible first | exact HB.out | apply lA_ | apply lN_ | apply lD_ | refine lS_ ?_ (sG_ HI0.out)) | exact HB.out), by repeat (first | (with_reducible first | exact HK.out | apply KeepBut.set_ | apply keep_drewN | apply keep_drew | apply keep_alloc) | exact HK.out)⟩
 ·rw [if_neg c4] at H
  have c4b0 : decide (0 < t221) = false := decide_eq_false c4
  clear c4
  replace H := oB_ H
  obtain ⟨⟨t222, t223, t224, t225⟩, A70, H⟩ := H
  replace H : (if t225 = 0 then (period_Year_begin.j0 k a1 (t224 != s0_3) s0_0 s0_1 s0_2 s0_3 s0_4 s0_5 s0_6 s0_7 s0_8 t222 t223 t224) else (period_Year_begin.j0 k a1 true s0_0 s0_1 s0_2 s0_3 s0_4 s0_5 s0_6 s0_7 s0_8 t222 t223 t224)) = some (r1, r2, r3, r4, r5, r6, r7, r8, r9, r10) := H
  have A7 := a0_ A70
  clear A70
  have HC8 := a0_ H
  clear H
  obtain ⟨HGz9, hgz9⟩ := HI0.out
  have hcz9_0 := cellS62_0 HGz9
  have hcz9_1 := cellS62_1 HGz9
  have hcz9_2 := cellS62_2 HGz9
  have hcz9_3 := cellS62_3 HGz9
  have hcz9_4 := cellS62_4 HGz9
  have hcz9_5 := cellS62_5 HGz9
  have hcz9_6 := cellS62_6 HGz9
  have hcz9_7 := cellS62_7 HGz9
  have hcz9_8 := cellS62_8 HGz9
  have hfz9_0 := bF_ HGz9 0
  have hfz9_1 := bF_ HGz9 1
  have hfz9_2 := bF_ HGz9 2
  have hfz9_3 := bF_ HGz9 3
  have hfz9_4 := bF_ HGz9 4
  have hfz9_5 := bF_ HGz9 5
  have hfz9_6 := bF_ HGz9 6
  have hfz9_7 := bF_ HGz9 7
  have hfz9_8 := bF_ HGz9 8
  clear HGz9 hgz9
  go_enter Try.func42, Try.ntmps42
  go_upto_region 5 with (first | (go_at_call 41; (with_reducible refine (period_length.calls s0_0 t221 _ A3.out).mono ?_); rintro e w' ⟨rfl, ⟨nd, rfl⟩⟩; (try first | exact ⟨rfl, _, World.drewN_drewN _ _ _⟩ | exact ⟨rfl, _, Eq.trans (World.drewN_drewN _ _ _) (congrArg (World.drewN _) (Nat.add_assoc _ _ _))⟩)) | (go_at_call 39; (with_reducible refine (date_Months.calls k s0_1 s0_2 s0_3 (wrap64 (a1 - 1)) t222 t223 t224 t225 _ A7.out).mono ?_); rintro e w10 ⟨rfl, hb⟩; have n0_ := a0_ (IsS62.below (by repeat (first | (with_reducible first | exact HI0.out | apply sA_ | apply sN_ | apply sD_) | exact HI0.out)) hb); have n1_ := a0_ (KeepBut.trans (by repeat (first | (with_reducible first | exact HK.out | apply KeepBut.set_ | apply keep_drewN | apply keep_drew | apply keep_alloc) | exact HK.out)) (KeepBut.of_below hb g none) (.inl rfl)); have n2_ := a0_ (below_step (by repeat (first | (with_reducible first | exact HB.out | apply lA_ | apply lN_ | apply lD_ | refine lS_ ?_ (sG_ HI0.out)) | exact HB.out)) hb); clear HI0; clear HK; clear HB; have HI0 := n0_; have HK := n1_; have HB := n2_; clear n0_ n1_ n2_; (try clear hb); (try clear hb2); (try clear hk); (try clear hi)) | ((with_reducible refine gate_dst (N := 6) rfl ?_); refine box_event ?hg (N := 6) ?hd (cs := #[.int .i64 0, .int .i64 0, .int .i64 0]) (t := 23) ?hr ?_; (case hd => rfl); (case hg => rfl); (case hr => first | (go_simp; done) | (go_simp; rfl)); intro gb226 hg w11 hbox hb; have n0_ := a0_ (IsS62.below (by repeat (first | (with_reducible first | exact HI0.out | apply sA_ | apply sN_ | apply sD_) | exact HI0.out)) hb); have n1_ := a0_ (KeepBut.trans (by repeat (first | (with_reducible first | exact HK.out | apply KeepBut.set_ | apply keep_drewN | apply keep_drew | apply keep_alloc) | exact HK.out)) (KeepBut.of_below hb g none) (.inl rfl)); have n2_ := a0_ (below_step (by repeat (first | (with_reducible first | exact HB.out | apply lA_ | apply lN_ | apply lD_ | refine lS_ ?_ (sG_ HI0.out)) | exact HB.out)) hb); have n3_ := a0_ (hbox); have n4_ := a0_ ((by rw [hg]; exact (keep_size (w := w) (g := g) (row := none) (by repeat (first | (with_reducible first | exact HK.out | apply KeepBut.set_ | apply keep_drewN | apply keep_drew | apply keep_alloc) | exact HK.out))) : w.heap.size ≤ gb226)); have n5_ := a0_ ((Nat.le_trans HW0.out (by rw [hg]; exact (keep_size (w := w) (g := g) (row := none) (by repeat (first | (with_reducible first | exact HK.out | apply KeepBut.set_ | apply keep_drewN | apply keep_drew | apply keep_alloc) | exact HK.out))) : w.heap.size ≤ gb226) : w0.heap.size ≤ gb226)); have n6_ := a0_ ((by rw [hg]; exact Nat.ne_of_lt (IsS62.lt (show IsS62 w0 _ g s0_0 s0_1 s0_2 s0_3 s0_4 s0_5 s0_6 s0_7 s0_8 from by repeat (first | (with_reducible first | exact HI0.out | apply sA_ | apply sN_ | apply sD_) | exact HI0.out))) : g ≠ gb226)); have n7_ := a0_ ((by rw [hg]; exact Nat.ne_of_gt (IsS62.lt (show IsS62 w0 _ g s0_0 s0_1 s0_2 s0_3 s0_4 s0_5 s0_6 s0_7 s0_8 from by repeat (first | (with_reducible first | exact HI0.out | apply sA_ | apply sN_ | apply sD_) | exact HI0.out))) : gb226 ≠ g)); clear HI0; clear HK; clear HB; have HI0 := n0_; have HK := n1_; have HB := n2_; have BK226 := n3_; have GW226 := n4_; have GE226 := n5_; have NB0_226 := n6_; have NB226_0 := n7_; clear n0_ n1_ n2_ n3_ n4_ n5_ n6_ n7_; clear hb hbox hg; have hnb12 := NB226_0.out; have hnc12 := NB0_226.out; have hcz13_0 : w11.cell? ⟨gb226, 0, none⟩ = some (.int .i64 0) := (bC_ BK226.out 0).trans rfl; have hcz13_1 : w11.cell? ⟨gb226, 1, none⟩ = some (.int .i64 0) := (bC_ BK226.out 1).trans rfl; have hcz13_2 : w11.cell? ⟨gb226, 2, none⟩ = some (.int .i64 0) := (bC_ BK226.out 2).trans rfl; have hfz13_0 := bF_ BK226.out 0; have hfz13_1 := bF_ BK226.out 1; have hfz13_2 := bF_ BK226.out 2))
  repeat (go_quiet (first | (go_at_call 41; (with_reducible refine (period_length.calls s0_0 t221 _ A3.out).mono ?_); rintro e w' ⟨rfl, ⟨nd, rfl⟩⟩; (try first | exact ⟨rfl, _, World.drewN_drewN _ _ _⟩ | exact ⟨rfl, _, Eq.trans (World.drewN_drewN _ _ _) (congrArg (World.drewN _) (Nat.add_assoc _ _ _))⟩)) | (go_at_call 39; (with_reducible refine (date_Months.calls k s0_1 s0_2 s0_3 (wrap64 (a1 - 1)) t222 t223 t224 t225 _ A7.out).mono ?_); rintro e w10 ⟨rfl, hb⟩; have n0_ := a0_ (IsS62.below (by repeat (first | (with_reducible first | exact HI0.out | apply sA_ | apply sN_ | apply sD_) | exact HI0.out)) hb); have n1_ := a0_ (KeepBut.trans (by repeat (first | (with_reducible first | exact HK.out | apply KeepBut.set_ | apply keep_drewN | apply keep_drew | apply keep_alloc) | exact HK.out)) (KeepBut.of_below hb g none) (.inl rfl)); have n2_ := a0_ (below_step (by repeat (first | (with_reducible first | exact HB.out | apply lA_ | apply lN_ | apply lD_ | refine lS_ ?_ (sG_ HI0.out)) | exact HB.out)) hb); clear HI0; clear HK; clear HB; have HI0 := n0_; have HK := n1_; have HB := n2_; clear n0_ n1_ n2_; (try clear hb); (try clear hb2); (try clear hk); (try clear hi)) | ((with_reducible refine gate_dst (N := 6) rfl ?_); refine box_event ?hg (N := 6) ?hd (cs := #[.int .i64 0, .int .i64 0, .int .i64 0]) (t := 23) ?hr ?_; (case hd => rfl); (case hg => rfl); (case hr => first | (go_simp; done) | (go_simp; rfl)); intro gb226 hg w11 hbox hb; have n0_ := a0_ (IsS62.below (by repeat (first | (with_reducible first | exact HI0.out | apply sA_ | apply sN_ | apply sD_) | exact HI0.out)) hb); have n1_ := a0_ (KeepBut.trans (by repeat (first | (with_reducible first | exact HK.out | apply KeepBut.set_ | apply keep_drewN | apply keep_drew | apply keep_alloc) | exact HK.out)) (KeepBut.of_below hb g none) (.inl rfl)); have n2_ := a0_ (below_step (by repeat (first | (with_reducible first | exact HB.out | apply lA_ | apply lN_ | apply lD_ | refine lS_ ?_ (sG_ HI0.out)) | exact HB.out)) hb); have n3_ := a0_ (hbox); have n4_ := a0_ ((by rw [hg]; exact (keep_size (w := w) (g := g) (row := none) (by repeat (first | (with_reducible first | exact HK.out | apply KeepBut.set_ | apply keep_drewN | apply keep_drew | apply keep_alloc) | exact HK.out))) : w.heap.size ≤ gb226)); have n5_ := a0_ ((Nat.le_trans HW0.out (by rw [hg]; exact (keep_size (w := w) (g := g) (row := none) (by repeat (first | (with_reducible first | exact HK.out | apply KeepBut.set_ | apply keep_drewN | apply keep_drew | apply keep_alloc) | exact HK.out))) : w.heap.size ≤ gb226) : w0.heap.size ≤ gb226)); have n6_ := a0_ ((by rw [hg]; exact Nat.ne_of_lt (IsS62.lt (show IsS62 w0 _ g s0_0 s0_1 s0_2 s0_3 s0_4 s0_5 s0_6 s0_7 s0_8 from by repeat (first | (with_reducible first | exact HI0.out | apply sA_ | apply sN_ | apply sD_) | exact HI0.out))) : g ≠ gb226)); have n7_ := a0_ ((by rw [hg]; exact Nat.ne_of_gt (IsS62.lt (show IsS62 w0 _ g s0_0 s0_1 s0_2 s0_3 s0_4 s0_5 s0_6 s0_7 s0_8 from by repeat (first | (with_reducible first | exact HI0.out | apply sA_ | apply sN_ | apply sD_) | exact HI0.out))) : gb226 ≠ g)); clear HI0; clear HK; clear HB; have HI0 := n0_; have HK := n1_; have HB := n2_; have BK226 := n3_; have GW226 := n4_; have GE226 := n5_; have NB0_226 := n6_; have NB226_0 := n7_; clear n0_ n1_ n2_ n3_ n4_ n5_ n6_ n7_; clear hb hbox hg; have hnb12 := NB226_0.out; have hnc12 := NB0_226.out; have hcz13_0 : w11.cell? ⟨gb226, 0, none⟩ = some (.int .i64 0) := (bC_ BK226.out 0).trans rfl; have hcz13_1 : w11.cell? ⟨gb226, 1, none⟩ = some (.int .i64 0) := (bC_ BK226.out 1).trans rfl; have hcz13_2 : w11.cell? ⟨gb226, 2, none⟩ = some (.int .i64 0) := (bC_ BK226.out 2).trans rfl; have hfz13_0 := bF_ BK226.out 0; have hfz13_1 := bF_ BK226.out 1; have hfz13_2 := bF_ BK226.out 2)); go_upto_region 5 with (first | (go_at_call 41; (with_reducible refine (period_length.calls s0_0 t221 _ A3.out).mono ?_); rintro e w' ⟨rfl, ⟨nd, rfl⟩⟩; (try first | exact ⟨rfl, _, World.drewN_drewN _ _ _⟩ | exact ⟨rfl, _, Eq.trans (World.drewN_drewN _ _ _) (congrArg (World.drewN _) (Nat.add_assoc _ _ _))⟩)) | (go_at_call 39; (with_reducible refine (date_Months.calls k s0_1 s0_2 s0_3 (wrap64 (a1 - 1)) t222 t223 t224 t225 _ A7.out).mono ?_); rintro e w10 ⟨rfl, hb⟩; have n0_ := a0_ (IsS62.below (by repeat (first | (with_reducible first | exact HI0.out | apply sA_ | apply sN_ | apply sD_) | exact HI0.out)) hb); have n1_ := a0_ (KeepBut.trans (by repeat (first | (with_reducible first | exact HK.out | apply KeepBut.set_ | apply keep_drewN | apply keep_drew | apply keep_alloc) | exact HK.out)) (KeepBut.of_below hb g none) (.inl rfl)); have n2_ := a0_ (below_step (by repeat (first | (with_reducible first | exact HB.out | apply lA_ | apply lN_ | apply lD_ | refine lS_ ?_ (sG_ HI0.out)) | exact HB.out)) hb); clear HI0; clear HK; clear HB; have HI0 := n0_; have HK := n1_; have HB := n2_; clear n0_ n1_ n2_; (try clear hb); (try clear hb2); (try clear hk); (try clear hi)) | ((with_reducible refine gate_dst (N := 6) rfl ?_); refine box_event ?hg (N := 6) ?hd (cs := #[.int .i64 0, .int .i64 0, .int .i64 0]) (t := 23) ?hr ?_; (case hd => rfl); (case hg => rfl); (case hr => first | (go_simp; done) | (go_simp; rfl)); intro gb226 hg w11 hbox hb; have n0_ := a0_ (IsS62.below (by repeat (first | (with_reducible first | exact HI0.out | apply sA_ | apply sN_ | apply sD_) | exact HI0.out)) hb); have n1_ := a0_ (KeepBut.trans (by repeat (first | (with_reducible first | exact HK.out | apply KeepBut.set_ | apply keep_drewN | apply keep_drew | apply keep_alloc) | exact HK.out)) (KeepBut.of_below hb g none) (.inl rfl)); have n2_ := a0_ (below_step (by repeat (first | (with_reducible first | exact HB.out | apply lA_ | apply lN_ | apply lD_ | refine lS_ ?_ (sG_ HI0.out)) | exact HB.out)) hb); have n3_ := a0_ (hbox); have n4_ := a0_ ((by rw [hg]; exact (keep_size (w := w) (g := g) (row := none) (by repeat (first | (with_reducible first | exact HK.out | apply KeepBut.set_ | apply keep_drewN | apply keep_drew | apply keep_alloc) | exact HK.out))) : w.heap.size ≤ gb226)); have n5_ := a0_ ((Nat.le_trans HW0.out (by rw [hg]; exact (keep_size (w := w) (g := g) (row := none) (by repeat (first | (with_reducible first | exact HK.out | apply KeepBut.set_ | apply keep_drewN | apply keep_drew | apply keep_alloc) | exact HK.out))) : w.heap.size ≤ gb226) : w0.heap.size ≤ gb226)); have n6_ := a0_ ((by rw [hg]; exact Nat.ne_of_lt (IsS62.lt (show IsS62 w0 _ g s0_0 s0_1 s0_2 s0_3 s0_4 s0_5 s0_6 s0_7 s0_8 from by repeat (first | (with_reducible first | exact HI0.out | apply sA_ | apply sN_ | apply sD_) | exact HI0.out))) : g ≠ gb226)); have n7_ := a0_ ((by rw [hg]; exact Nat.ne_of_gt (IsS62.lt (show IsS62 w0 _ g s0_0 s0_1 s0_2 s0_3 s0_4 s0_5 s0_6 s0_7 s0_8 from by repeat (first | (with_reducible first | exact HI0.out | apply sA_ | apply sN_ | apply sD_) | exact HI0.out))) : gb226 ≠ g)); clear HI0; clear HK; clear HB; have HI0 := n0_; have HK := n1_; have HB := n2_; have BK226 := n3_; have GW226 := n4_; have GE226 := n5_; have NB0_226 := n6_; have NB226_0 := n7_; clear n0_ n1_ n2_ n3_ n4_ n5_ n6_ n7_; clear hb hbox hg; have hnb12 := NB226_0.out; have hnc12 := NB0_226.out; have hcz13_0 : w11.cell? ⟨gb226, 0, none⟩ = some (.int .i64 0) := (bC_ BK226.out 0).trans rfl; have hcz13_1 : w11.cell? ⟨gb226, 1, none⟩ = some (.int .i64 0) := (bC_ BK226.out 1).trans rfl; have hcz13_2 : w11.cell? ⟨gb226, 2, none⟩ = some (.int .i64 0) := (bC_ BK226.out 2).trans rfl; have hfz13_0 := bF_ BK226.out 0; have hfz13_1 := bF_ BK226.out 1; have hfz13_2 := bF_ BK226.out 2)))
  (try simp only [Act.put, zA_, zB_, zC_])
  go_cut [52] (fun v52 wc => ∃ (kq : Nat) (x52_7 : Bool), v52 = .bool x52_7 ∧ Aside0 (period_Year_begin.j0 kq a1 x52_7 s0_0 s0_1 s0_2 s0_3 s0_4 s0_5 s0_6 s0_7 s0_8 t222 t223 t224 = some (r1, r2, r3, r4, r5, r6, r7, r8, r9, r10)) ∧ Aside0 (kq ≤ k) ∧ Aside0 (wc.heap[gb226]? = some (.cells #[.int .i64 t222, .int .i64 t223, .int .i64 t224] 23 (0, 0))) ∧ Aside0 (IsS62 w0 wc g s0_0 s0_1 s0_2 s0_3 s0_4 s0_5 s0_6 s0_7 s0_8) ∧ Aside0 (KeepBut w wc g none) ∧ Aside0 (Below w0.heap.size w0 wc))
  case first =>
   have H := HC8.out
   clear HC8
   by_cases c14 : t225 = 0
   ·rw [if_pos c14] at H
    have c14b0 : (t225 == 0) = true := beq_iff_eq.mpr c14
    have c14b1 : (t225 != 0) = false := bne_eq_false_iff_eq.mpr c14
    clear c14
    (first | rw [c14b0] | (simp only [i64_w, i32_w]; rw [c14b0]) | skip)
    have H' := a0_ H
    clear H
    have hnb15 := NB226_0.out
    have hnc15 := NB0_226.out
    have hcz16_0 : w11.cell? ⟨gb226, 0, none⟩ = some (.int .i64 0) := (bC_ BK226.out 0).trans rfl
    have hcz16_1 : w11.cell? ⟨gb226, 1, none⟩ = some (.int .i64 0) := (bC_ BK226.out 1).trans rfl
    have hcz16_2 : w11.cell? ⟨gb226, 2, none⟩ = some (.int .i64 0) := (bC_ BK226.out 2).trans rfl
    have hfz16_0 := bF_ BK226.out 0
    have hfz16_1 := bF_ BK226.out 1
    have hfz16_2 := bF_ BK226.out 2
    obtain ⟨HGz17, hgz17⟩ := HI0.out
    have hcz17_0 := cellS62_0 HGz17
    have hcz17_1 := cellS62_1 HGz17
    have hcz17_2 := cellS62_2 HGz17
    have hcz17_3 := cellS62_3 HGz17
    have hcz17_4 := cellS62_4 HGz17
    have hcz17_5 := cellS62_5 HGz17
    have hcz17_6 := cellS62_6 HGz17
    have hcz17_7 := cellS62_7 HGz17
    have hcz17_8 := cellS62_8 HGz17
    have hfz17_0 := bF_ HGz17 0
    have hfz17_1 := bF_ HGz17 1
    have hfz17_2 := bF_ HGz17 2
    have hfz17_3 := bF_ HGz17 3
    have hfz17_4 := bF_ HGz17 4
    have hfz17_5 := bF_ HGz17 5
    have hfz17_6 := bF_ HGz17 6
    have hfz17_7 := bF_ HGz17 7
    have hfz17_8 := bF_ HGz17 8
    clear HGz17 hgz17
    go_wp2
    repeat (go_quiet (fail); try go_wp2)
    go_meet
    case rel => exact ⟨_, ((t224 != s0_3)), (by first | rfl | (simp; done) | (simp [*]; done)), H', ⟨by first | omega | exact Nat.le_refl _⟩, ⟨by (with_reducible repeat first | apply bN_ | apply bD_ | apply bA_); refine blk_put (cs := #[.int .i64 t222, .int .i64 t223, .int .i64 0]) ?_ 2 _ rfl; (with_reducible repeat first | apply bN_ | apply bD_ | apply bA_); refine blk_put (cs := #[.int .i64 t222, .int .i64 0, .int .i64 0]) ?_ 1 _ rfl; (with_reducible repeat first | apply bN_ | apply bD_ | apply bA_); refine blk_put (cs := #[.int .i64 0, .int .i64 0, .int .i64 0]) ?_ 0 _ rfl; (with_reducible repeat first | apply bN_ | apply bD_ | apply bA_); exact BK226.out⟩, ⟨by repeat (first | (with_reducible first | exact HI0.out | apply sA_ | apply sN_ | apply sD_ | refine sF_ ?_ NB0_226.out _) | exact HI0.out)⟩, ⟨by repeat (first | (with_reducible first | exact HK.out | apply KeepBut.set_ | apply keep_drewN | apply keep_drew | apply keep_alloc | refine keep_far ?_ GW226.out _) | exact HK.out)⟩, ⟨by repeat (first | (with_reducible first | exact HB.out | apply lA_ | apply lN_ | apply lD_ | refine lS_ ?_ (sG_ HI0.out) | refine lS_ ?_ GE226.out) | exact HB.out)⟩⟩
   ·rw [if_neg c14] at H
    have c14b0 : (t225 == 0) = false := beq_eq_false_iff_ne.mpr c14
    have c14b1 : (t225 != 0) = true := bne_iff_ne.mpr c14
    (first | rw [c14b0] | (simp only [i64_w, i32_w]; rw [c14b0]) | skip)
    have H' := a0_ H
    clear H
    go_wp2
    repeat (go_quiet (fail); try go_wp2)
    go_meet
    case rel => exact ⟨_, (true), (by first | rfl | (simp; done) | (simp [*]; done)), H', ⟨by first | omega | exact Nat.le_refl _⟩, ⟨by (with_reducible repeat first | apply bN_ | apply bD_ | apply bA_); refine blk_put (cs := #[.int .i64 t222, .int .i64 t223, .int .i64 0]) ?_ 2 _ rfl; (with_reducible repeat first | apply bN_ | apply bD_ | apply bA_); refine blk_put (cs := #[.int .i64 t222, .int .i64 0, .int .i64 0]) ?_ 1 _ rfl; (with_reducible repeat first | apply bN_ | apply bD_ | apply bA_); refine blk_put (cs := #[.int .i64 0, .int .i64 0, .int .i64 0]) ?_ 0 _ rfl; (with_reducible repeat first | apply bN_ | apply bD_ | apply bA_); exact BK226.out⟩, ⟨by repeat (first | (with_reducible first | exact HI0.out | apply sA_ | apply sN_ | apply sD_ | refine sF_ ?_ NB0_226.out _) | exact HI0.out)⟩, ⟨by repeat (first | (with_reducible first | exact HK.out | apply KeepBut.set_ | apply keep_drewN | apply keep_drew | apply keep_alloc | refine keep_far ?_ GW226.out _) | exact HK.out)⟩, ⟨by repeat (first | (with_reducible first | exact HB.out | apply lA_ | apply lN_ | apply lD_ | refine lS_ ?_ (sG_ HI0.out) | refine lS_ ?_ GE226.out) | exact HB.out)⟩⟩
  case rest =>
   clear HC8
   try clear c4
   try clear c4b0
   try clear c14
   try clear c14b0
   try clear c14b1
   try clear hcz13_0
   try clear hcz13_1
   try clear hcz13_2
   try clear hcz16_0
   try clear hcz16_1
   try clear hcz16_2
   try clear hcz17_0
   try clear hcz17_1
   try clear hcz17_2
   try clear hcz17_3
   try clear hcz17_4
   try clear hcz17_5
   try clear hcz17_6
   try clear hcz17_7
   try clear hcz17_8
   try clear hcz6_0
   try clear hcz6_1
   try clear hcz6_2
   try clear hcz6_3
   try clear hcz6_4
   try clear hcz6_5
   try clear hcz6_6
   try clear hcz6_7
   try clear hcz6_8
   try clear hcz9_0
   try clear hcz9_1
   try clear hcz9_2
   try clear hcz9_3
   try clear hcz9_4
   try clear hcz9_5
   try clear hcz9_6
   try clear hcz9_7
   try clear hcz9_8
   try clear hfz13_0
   try clear hfz13_1
   try clear hfz13_2
   try clear hfz16_0
   try clear hfz16_1
   try clear hfz16_2
   try clear hfz17_0
   try clear hfz17_1
   try clear hfz17_2
   try clear hfz17_3
   try clear hfz17_4
   try clear hfz17_5
   try clear hfz17_6
   try clear hfz17_7
   try clear hfz17_8
   try clear hfz6_0
   try clear hfz6_1
   try clear hfz6_2
   try clear hfz6_3
   try clear hfz6_4
   try clear hfz6_5
   try clear hfz6_6
   try clear hfz6_7
   try clear hfz6_8
   try clear hfz9_0
   try clear hfz9_1
   try clear hfz9_2
   try clear hfz9_3
   try clear hfz9_4
   try clear hfz9_5
   try clear hfz9_6
   try clear hfz9_7
   try clear hfz9_8
   obtain ⟨kq, x52_7, rfl, HA, HJ7, BK226, HI0, HK, HB⟩ := hcut
   cases kq with
   | zero => exact absurd HA.out (by simp [period_Year_begin.j0])
   | succ kj7 =>
    have H := HA.out
    clear HA
    simp only [period_Year_begin.j0] at H
    by_cases c18 : x52_7 = true
    ·subst c18
     have H1 : ((period_short.f kj7 s0_1 s0_2 s0_3 (wrap64 (a1 - 1))).bind fun bt227 => ((date_Number.f kj7 bt227.1 bt227.2.1 bt227.2.2).bind fun bt230 => (some (bt230.1, s0_0, s0_1, s0_2, s0_3, s0_4, s0_5, s0_6, s0_7, s0_8)))) = some (r1, r2, r3, r4, r5, r6, r7, r8, r9, r10) := by rw [if_pos rfl] at H; exact H
     clear H
     have H := H1
     clear H1
     replace H := oB_ H
     obtain ⟨⟨t227, t228, t229⟩, A190, H⟩ := H
     replace H : ((date_Number.f kj7 t227 t228 t229).bind fun bt230 => (some (bt230.1, s0_0, s0_1, s0_2, s0_3, s0_4, s0_5, s0_6, s0_7, s0_8))) = some (r1, r2, r3, r4, r5, r6, r7, r8, r9, r10) := H
     have A19 := a0_ A190
     clear A190
     replace H := oB_ H
     obtain ⟨⟨t230, t231⟩, A200, H⟩ := H
     replace H : (some (t230, s0_0, s0_1, s0_2, s0_3, s0_4, s0_5, s0_6, s0_7, s0_8)) = some (r1, r2, r3, r4, r5, r6, r7, r8, r9, r10) := H
     have A20 := a0_ A200
     clear A200
     simp only [Option.some.injEq, Prod.mk.injEq] at H
     obtain ⟨rfl, rfl, rfl, rfl, rfl, rfl, rfl, rfl, rfl, rfl⟩ := H
     obtain ⟨HGz21, hgz21⟩ := HI0.out
     have hcz21_0 := cellS62_0 HGz21
     have hcz21_1 := cellS62_1 HGz21
     have hcz21_2 := cellS62_2 HGz21
     have hcz21_3 := cellS62_3 HGz21
     have hcz21_4 := cellS62_4 HGz21
     have hcz21_5 := cellS62_5 HGz21
     have hcz21_6 := cellS62_6 HGz21
     have hcz21_7 := cellS62_7 HGz21
     have hcz21_8 := cellS62_8 HGz21
     have hfz21_0 := bF_ HGz21 0
     have hfz21_1 := bF_ HGz21 1
     have hfz21_2 := bF_ HGz21 2
     have hfz21_3 := bF_ HGz21 3
     have hfz21_4 := bF_ HGz21 4
     have hfz21_5 := bF_ HGz21 5
     have hfz21_6 := bF_ HGz21 6
     have hfz21_7 := bF_ HGz21 7
     have hfz21_8 := bF_ HGz21 8
     clear HGz21 hgz21
     go_wp2_with (first | (go_at_call 46; (with_reducible refine (period_short.calls kj7 s0_1 s0_2 s0_3 (wrap64 (a1 - 1)) t227 t228 t229 _ A19.out).mono ?_); rintro e w22 ⟨rfl, hb⟩; have n0_ := a0_ (bB_ (g := gb226) (o := .cells #[.int .i64 t222, .int .i64 t223, .int .i64 t224] 23 (0, 0)) (by (with_reducible repeat first | apply bN_ | apply bD_ | apply bA_); exact BK226.out) hb); have n1_ := a0_ (IsS62.below (by repeat (first | (with_reducible first | exact HI0.out | apply sA_ | apply sN_ | apply sD_ | refine sF_ ?_ NB0_226.out _) | exact HI0.out)) hb); have n2_ := a0_ (KeepBut.trans (by repeat (first | (with_reducible first | exact HK.out | apply KeepBut.set_ | apply keep_drewN | apply keep_drew | apply keep_alloc | refine keep_far ?_ GW226.out _) | exact HK.out)) (KeepBut.of_below hb g none) (.inl rfl)); have n3_ := a0_ (below_step (by repeat (first | (with_reducible first | exact HB.out | apply lA_ | apply lN_ | apply lD_ | refine lS_ ?_ (sG_ HI0.out) | refine lS_ ?_ GE226.out) | exact HB.out)) hb); clear BK226; clear HI0; clear HK; clear HB; have BK226 := n0_; have HI0 := n1_; have HK := n2_; have HB := n3_; clear n0_ n1_ n2_ n3_; (try clear hb); (try clear hb2); (try clear hk); (try clear hi); have hnb23 := NB226_0.out; have hnc23 := NB0_226.out; have hcz24_0 : w22.cell? ⟨gb226, 0, none⟩ = some (.int .i64 t222) := (bC_ BK226.out 0).trans rfl; have hcz24_1 : w22.cell? ⟨gb226, 1, none⟩ = some (.int .i64 t223) := (bC_ BK226.out 1).trans rfl; have hcz24_2 : w22.cell? ⟨gb226, 2, none⟩ = some (.int .i64 t224) := (bC_ BK226.out 2).trans rfl; have hfz24_0 := bF_ BK226.out 0; have hfz24_1 := bF_ BK226.out 1; have hfz24_2 := bF_ BK226.out 2) | (go_at_call 10; (with_reducible refine (date_Number.calls kj7 t227 t228 t229 t230 t231 _ A20.out).mono ?_); rintro e w25 ⟨rfl, hb⟩; have n0_ := a0_ (bB_ (g := gb226) (o := .cells #[.int .i64 t227, .int .i64 t228, .int .i64 t229] 23 (0, 0)) (by (with_reducible repeat first | apply bN_ | apply bD_ | apply bA_); refine blk_put (cs := #[.int .i64 t227, .int .i64 t228, .int .i64 t224]) ?_ 2 _ rfl; (with_reducible repeat first | apply bN_ | apply bD_ | apply bA_); refine blk_put (cs := #[.int .i64 t227, .int .i64 t223, .int .i64 t224]) ?_ 1 _ rfl; (with_reducible repeat first | apply bN_ | apply bD_ | apply bA_); refine blk_put (cs := #[.int .i64 t222, .int .i64 t223, .int .i64 t224]) ?_ 0 _ rfl; (with_reducible repeat first | apply bN_ | apply bD_ | apply bA_); exact BK226.out) hb); have n1_ := a0_ (IsS62.below (show IsS62 w0 (((w22.setCell ⟨gb226, 0, none⟩ (.int .i64 t227)).setCell ⟨gb226, 1, none⟩ (.int .i64 t228)).setCell ⟨gb226, 2, none⟩ (.int .i64 t229)) g s0_0 s0_1 s0_2 s0_3 s0_4 s0_5 s0_6 s0_7 s0_8 from by repeat (first | (with_reducible first | exact HI0.out | apply sA_ | apply sN_ | apply sD_ | refine sF_ ?_ NB0_226.out _) | exact HI0.out)) hb); have n2_ := a0_ (KeepBut.trans (by repeat (first | (with_reducible first | exact HK.out | apply KeepBut.set_ | apply keep_drewN | apply keep_drew | apply keep_alloc | refine keep_far ?_ GW226.out _) | exact HK.out)) (KeepBut.of_below hb g none) (.inl rfl)); have n3_ := a0_ (below_step (by repeat (first | (with_reducible first | exact HB.out | apply lA_ | apply lN_ | apply lD_ | refine lS_ ?_ (sG_ HI0.out) | refine lS_ ?_ GE226.out) | exact HB.out)) hb); clear BK226; clear HI0; clear HK; clear HB; have BK226 := n0_; have HI0 := n1_; have HK := n2_; have HB := n3_; clear n0_ n1_ n2_ n3_; (try clear hb); (try clear hb2); (try clear hk); (try clear hi)))
     repeat (go_quiet (first | (go_at_call 46; (with_reducible refine (period_short.calls kj7 s0_1 s0_2 s0_3 (wrap64 (a1 - 1)) t227 t228 t229 _ A19.out).mono ?_); rintro e w22 ⟨rfl, hb⟩; have n0_ := a0_ (bB_ (g := gb226) (o := .cells #[.int .i64 t222, .int .i64 t223, .int .i64 t224] 23 (0, 0)) (by (with_reducible repeat first | apply bN_ | apply bD_ | apply bA_); exact BK226.out) hb); have n1_ := a0_ (IsS62.below (by repeat (first | (with_reducible first | exact HI0.out | apply sA_ | apply sN_ | apply sD_ | refine sF_ ?_ NB0_226.out _) | exact HI0.out)) hb); have n2_ := a0_ (KeepBut.trans (by repeat (first | (with_reducible first | exact HK.out | apply KeepBut.set_ | apply keep_drewN | apply keep_drew | apply keep_alloc | refine keep_far ?_ GW226.out _) | exact HK.out)) (KeepBut.of_below hb g none) (.inl rfl)); have n3_ := a0_ (below_step (by repeat (first | (with_reducible first | exact HB.out | apply lA_ | apply lN_ | apply lD_ | refine lS_ ?_ (sG_ HI0.out) | refine lS_ ?_ GE226.out) | exact HB.out)) hb); clear BK226; clear HI0; clear HK; clear HB; have BK226 := n0_; have HI0 := n1_; have HK := n2_; have HB := n3_; clear n0_ n1_ n2_ n3_; (try clear hb); (try clear hb2); (try clear hk); (try clear hi); have hnb23 := NB226_0.out; have hnc23 := NB0_226.out; have hcz24_0 : w22.cell? ⟨gb226, 0, none⟩ = some (.int .i64 t222) := (bC_ BK226.out 0).trans rfl; have hcz24_1 : w22.cell? ⟨gb226, 1, none⟩ = some (.int .i64 t223) := (bC_ BK226.out 1).trans rfl; have hcz24_2 : w22.cell? ⟨gb226, 2, none⟩ = some (.int .i64 t224) := (bC_ BK226.out 2).trans rfl; have hfz24_0 := bF_ BK226.out 0; have hfz24_1 := bF_ BK226.out 1; have hfz24_2 := bF_ BK226.out 2) | (go_at_call 10; (with_reducible refine (date_Number.calls kj7 t227 t228 t229 t230 t231 _ A20.out).mono ?_); rintro e w25 ⟨rfl, hb⟩; have n0_ := a0_ (bB_ (g := gb226) (o := .cells #[.int .i64 t227, .int .i64 t228, .int .i64 t229] 23 (0, 0)) (by (with_reducible repeat first | apply bN_ | apply bD_ | apply bA_); refine blk_put (cs := #[.int .i64 t227, .int .i64 t228, .int .i64 t224]) ?_ 2 _ rfl; (with_reducible repeat first | apply bN_ | apply bD_ | apply bA_); refine blk_put (cs := #[.int .i64 t227, .int .i64 t223, .int .i64 t224]) ?_ 1 _ rfl; (with_reducible repeat first | apply bN_ | apply bD_ | apply bA_); refine blk_put (cs := #[.int .i64 t222, .int .i64 t223, .int .i64 t224]) ?_ 0 _ rfl; (with_reducible repeat first | apply bN_ | apply bD_ | apply bA_); exact BK226.out) hb); have n1_ := a0_ (IsS62.below (show IsS62 w0 (((w22.setCell ⟨gb226, 0, none⟩ (.int .i64 t227)).setCell ⟨gb226, 1, none⟩ (.int .i64 t228)).setCell ⟨gb226, 2, none⟩ (.int .i64 t229)) g s0_0 s0_1 s0_2 s0_3 s0_4 s0_5 s0_6 s0_7 s0_8 from by repeat (first | (with_reducible first | exact HI0.out | apply sA_ | apply sN_ | apply sD_ | refine sF_ ?_ NB0_226.out _) | exact HI0.out)) hb); have n2_ := a0_ (KeepBut.trans (by repeat (first | (with_reducible first | exact HK.out | apply KeepBut.set_ | apply keep_drewN | apply keep_drew | apply keep_alloc | refine keep_far ?_ GW226.out _) | exact HK.out)) (KeepBut.of_below hb g none) (.inl rfl)); have n3_ := a0_ (below_step (by repeat (first | (with_reducible first | exact HB.out | apply lA_ | apply lN_ | apply lD_ | refine lS_ ?_ (sG_ HI0.out) | refine lS_ ?_ GE226.out) | exact HB.out)) hb); clear BK226; clear HI0; clear HK; clear HB; have BK226 := n0_; have HI0 := n1_; have HK := n2_; have HB := n3_; clear n0_ n1_ n2_ n3_; (try clear hb); (try clear hb2); (try clear hk); (try clear hi))); try go_wp2_with (first | (go_at_call 46; (with_reducible refine (period_short.calls kj7 s0_1 s0_2 s0_3 (wrap64 (a1 - 1)) t227 t228 t229 _ A19.out).mono ?_); rintro e w22 ⟨rfl, hb⟩; have n0_ := a0_ (bB_ (g := gb226) (o := .cells #[.int .i64 t222, .int .i64 t223, .int .i64 t224] 23 (0, 0)) (by (with_reducible repeat first | apply bN_ | apply bD_ | apply bA_); exact BK226.out) hb); have n1_ := a0_ (IsS62.below (by repeat (first | (with_reducible first | exact HI0.out | apply sA_ | apply sN_ | apply sD_ | refine sF_ ?_ NB0_226.out _) | exact HI0.out)) hb); have n2_ := a0_ (KeepBut.trans (by repeat (first | (with_reducible first | exact HK.out | apply KeepBut.set_ | apply keep_drewN | apply keep_drew | apply keep_alloc | refine keep_far ?_ GW226.out _) | exact HK.out)) (KeepBut.of_below hb g none) (.inl rfl)); have n3_ := a0_ (below_step (by repeat (first | (with_reducible first | exact HB.out | apply lA_ | apply lN_ | apply lD_ | refine lS_ ?_ (sG_ HI0.out) | refine lS_ ?_ GE226.out) | exact HB.out)) hb); clear BK226; clear HI0; clear HK; clear HB; have BK226 := n0_; have HI0 := n1_; have HK := n2_; have HB := n3_; clear n0_ n1_ n2_ n3_; (try clear hb); (try clear hb2); (try clear hk); (try clear hi); have hnb23 := NB226_0.out; have hnc23 := NB0_226.out; have hcz24_0 : w22.cell? ⟨gb226, 0, none⟩ = some (.int .i64 t222) := (bC_ BK226.out 0).trans rfl; have hcz24_1 : w22.cell? ⟨gb226, 1, none⟩ = some (.int .i64 t223) := (bC_ BK226.out 1).trans rfl; have hcz24_2 : w22.cell? ⟨gb226, 2, none⟩ = some (.int .i64 t224) := (bC_ BK226.out 2).trans rfl; have hfz24_0 := bF_ BK226.out 0; have hfz24_1 := bF_ BK226.out 1; have hfz24_2 := bF_ BK226.out 2) | (go_at_call 10; (with_reducible refine (date_Number.calls kj7 t227 t228 t229 t230 t231 _ A20.out).mono ?_); rintro e w25 ⟨rfl, hb⟩; have n0_ := a0_ (bB_ (g := gb226) (o := .cells #[.int .i64 t227, .int .i64 t228, .int .i64 t229] 23 (0, 0)) (by (with_reducible repeat first | apply bN_ | apply bD_ | apply bA_); refine blk_put (cs := #[.int .i64 t227, .int .i64 t228, .int .i64 t224]) ?_ 2 _ rfl; (with_reducible repeat first | apply bN_ | apply bD_ | apply bA_); refine blk_put (cs := #[.int .i64 t227, .int .i64 t223, .int .i64 t224]) ?_ 1 _ rfl; (with_reducible repeat first | apply bN_ | apply bD_ | apply bA_); refine blk_put (cs := #[.int .i64 t222, .int .i64 t223, .int .i64 t224]) ?_ 0 _ rfl; (with_reducible repeat first | apply bN_ | apply bD_ | apply bA_); exact BK226.out) hb); have n1_ := a0_ (IsS62.below (show IsS62 w0 (((w22.setCell ⟨gb226, 0, none⟩ (.int .i64 t227)).setCell ⟨gb226, 1, none⟩ (.int .i64 t228)).setCell ⟨gb226, 2, none⟩ (.int .i64 t229)) g s0_0 s0_1 s0_2 s0_3 s0_4 s0_5 s0_6 s0_7 s0_8 from by repeat (first | (with_reducible first | exact HI0.out | apply sA_ | apply sN_ | apply sD_ | refine sF_ ?_ NB0_226.out _) | exact HI0.out)) hb); have n2_ := a0_ (KeepBut.trans (by repeat (first | (with_reducible first | exact HK.out | apply KeepBut.set_ | apply keep_drewN | apply keep_drew | apply keep_alloc | refine keep_far ?_ GW226.out _) | exact HK.out)) (KeepBut.of_below hb g none) (.inl rfl)); have n3_ := a0_ (below_step (by repeat (first | (with_reducible first | exact HB.out | apply lA_ | apply lN_ | apply lD_ | refine lS_ ?_ (sG_ HI0.out) | refine lS_ ?_ GE226.out) | exact HB.out)) hb); clear BK226; clear HI0; clear HK; clear HB; have BK226 := n0_; have HI0 := n1_; have HK := n2_; have HB := n3_; clear n0_ n1_ n2_ n3_; (try clear hb); (try clear hb2); (try clear hk); (try clear hi))))
     go_ret
     exact ⟨by first | rfl | (simp [errW_none, errW_some] <;> rfl) | (simp [*, errW_none, errW_some] <;> rfl), by repeat (first | (with_reducible first | exact HI0.out | apply sA_ | apply sN_ | apply sD_ | refine sF_ ?_ NB0_226.out _) | exact HI0.out), by repeat (first | (with_reducible first | exact HB.out | apply lA_ | apply lN_ | apply lD_ | refine lS_ ?_ (sG_ HI0.out) | refine lS_ ?_ GE226.out) | exact HB.out), by repeat (first | (with_reducible first | exact HK.out | apply KeepBut.set_ | apply keep_drewN | apply keep_drew | apply keep_alloc | refine keep_far ?_ GW226.out _) | exact HK.out)⟩
    ·replace c18 := Bool.eq_false_iff.mpr c18
     subst c18
     have H1 : ((date_Number.f kj7 t222 t223 t224).bind fun bt232 => (some (bt232.1, s0_0, s0_1, s0_2, s0_3, s0_4, s0_5, s0_6, s0_7, s0_8))) = some (r1, r2, r3, r4, r5, r6, r7, r8, r9, r10) := by rw [if_neg (show ¬ (false = true) by decide)] at H; exact H
     clear H
     have H := H1
     clear H1
     replace H := oB_ H
     obtain ⟨⟨t232, t233⟩, A260, H⟩ := H
     replace H : (some (t232, s0_0, s0_1, s0_2, s0_3, s0_4, s0_5, s0_6, s0_7, s0_8)) = some (r1, r2, r3, r4, r5, r6, r7, r8, r9, r10) := H
     have A26 := a0_ A260
     clear A260
     simp only [Option.some.injEq, Prod.mk.injEq] at H
     obtain ⟨rfl, rfl, rfl, rfl, rfl, rfl, rfl, rfl, rfl, rfl⟩ := H
     have hnb27 := NB226_0.out
     have hnc27 := NB0_226.out
     have hcz28_0 : wc.cell? ⟨gb226, 0, none⟩ = some (.int .i64 t222) := (bC_ BK226.out 0).trans rfl
     have hcz28_1 : wc.cell? ⟨gb226, 1, none⟩ = some (.int .i64 t223) := (bC_ BK226.out 1).trans rfl
     have hcz28_2 : wc.cell? ⟨gb226, 2, none⟩ = some (.int .i64 t224) := (bC_ BK226.out 2).trans rfl
     have hfz28_0 := bF_ BK226.out 0
     have hfz28_1 := bF_ BK226.out 1
     have hfz28_2 := bF_ BK226.out 2
     go_wp2_with (first | (go_at_call 10; (with_reducible refine (date_Number.calls kj7 t222 t223 t224 t232 t233 _ A26.out).mono ?_); rintro e w29 ⟨rfl, hb⟩; have n0_ := a0_ (bB_ (g := gb226) (o := .cells #[.int .i64 t222, .int .i64 t223, .int .i64 t224] 23 (0, 0)) (by (with_reducible repeat first | apply bN_ | apply bD_ | apply bA_); exact BK226.out) hb); have n1_ := a0_ (IsS62.below (by repeat (first | (with_reducible first | exact HI0.out | apply sA_ | apply sN_ | apply sD_ | refine sF_ ?_ NB0_226.out _) | exact HI0.out)) hb); have n2_ := a0_ (KeepBut.trans (by repeat (first | (with_reducible first | exact HK.out | apply KeepBut.set_ | apply keep_drewN | apply keep_drew | apply keep_alloc | refine keep_far ?_ GW226.out _) | exact HK.out)) (KeepBut.of_below hb g none) (.inl rfl)); have n3_ := a0_ (below_step (by repeat (first | (with_reducible first | exact HB.out | apply lA_ | apply lN_ | apply lD_ | refine lS_ ?_ (sG_ HI0.out) | refine lS_ ?_ GE226.out) | exact HB.out)) hb); clear BK226; clear HI0; clear HK; clear HB; have BK226 := n0_; have HI0 := n1_; have HK := n2_; have HB := n3_; clear n0_ n1_ n2_ n3_; (try clear hb); (try clear hb2); (try clear hk); (try clear hi)))
     repeat (go_quiet (first | (go_at_call 10; (with_reducible refine (date_Number.calls kj7 t222 t223 t224 t232 t233 _ A26.out).mono ?_); rintro e w29 ⟨rfl, hb⟩; have n0_ := a0_ (bB_ (g := gb226) (o := .cells #[.int .i64 t222, .int .i64 t223, .int .i64 t224] 23 (0, 0)) (by (with_reducible repeat first | apply bN_ | apply bD_ | apply bA_); exact BK226.out) hb); have n1_ := a0_ (IsS62.below (by repeat (first | (with_reducible first | exact HI0.out | apply sA_ | apply sN_ | apply sD_ | refine sF_ ?_ NB0_226.out _) | exact HI0.out)) hb); have n2_ := a0_ (KeepBut.trans (by repeat (first | (with_reducible first | exact HK.out | apply KeepBut.set_ | apply keep_drewN | apply keep_drew | apply keep_alloc | refine keep_far ?_ GW226.out _) | exact HK.out)) (KeepBut.of_below hb g none) (.inl rfl)); have n3_ := a0_ (below_step (by repeat (first | (with_reducible first | exact HB.out | apply lA_ | apply lN_ | apply lD_ | refine lS_ ?_ (sG_ HI0.out) | refine lS_ ?_ GE226.out) | exact HB.out)) hb); clear BK226; clear HI0; clear HK; clear HB; have BK226 := n0_; have HI0 := n1_; have HK := n2_; have HB := n3_; clear n0_ n1_ n2_ n3_; (try clear hb); (try clear hb2); (try clear hk); (try clear hi))); try go_wp2_with (first | (go_at_call 10; (with_reducible refine (date_Number.calls kj7 t222 t223 t224 t232 t233 _ A26.out).mono ?_); rintro e w29 ⟨rfl, hb⟩; have n0_ := a0_ (bB_ (g := gb226) (o := .cells #[.int .i64 t222, .int .i64 t223, .int .i64 t224] 23 (0, 0)) (by (with_reducible repeat first | apply bN_ | apply bD_ | apply bA_); exact BK226.out) hb); have n1_ := a0_ (IsS62.below (by repeat (first | (with_reducible first | exact HI0.out | apply sA_ | apply sN_ | apply sD_ | refine sF_ ?_ NB0_226.out _) | exact HI0.out)) hb); have n2_ := a0_ (KeepBut.trans (by repeat (first | (with_reducible first | exact HK.out | apply KeepBut.set_ | apply keep_drewN | apply keep_drew | apply keep_alloc | refine keep_far ?_ GW226.out _) | exact HK.out)) (KeepBut.of_below hb g none) (.inl rfl)); have n3_ := a0_ (below_step (by repeat (first | (with_reducible first | exact HB.out | apply lA_ | apply lN_ | apply lD_ | refine lS_ ?_ (sG_ HI0.out) | refine lS_ ?_ GE226.out) | exact HB.out)) hb); clear BK226; clear HI0; clear HK; clear HB; have BK226 := n0_; have HI0 := n1_; have HK := n2_; have HB := n3_; clear n0_ n1_ n2_ n3_; (try clear hb); (try clear hb2); (try clear hk); (try clear hi))))
     go_ret
     exact ⟨by first | rfl | (simp [errW_none, errW_some] <;> rfl) | (simp [*, errW_none, errW_some] <;> rfl), by repeat (first | (with_reducible first | exact HI0.out | apply sA_ | apply sN_ | apply sD_ | refine sF_ ?_ NB0_226.out _) | exact HI0.out), by repeat (first | (with_reducible first | exact HB.out | apply lA_ | apply lN_ | apply lD_ | refine lS_ ?_ (sG_ HI0.out) | refine lS_ ?_ GE226.out) | exact HB.out), by repeat (first | (with_reducible first | exact HK.out | apply KeepBut.set_ | apply keep_drewN | apply keep_drew | apply keep_alloc | refine keep_far ?_ GW226.out _) | exact HK.out)⟩

end Go.Proofs.Ytojinnnckfimhaa.X
