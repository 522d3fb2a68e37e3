-- laid by the session's own program (xprint.py) out of Lean's print of the program; Lean checks it
import Derived.Test.YtojinnnckfimhaaX0
import Derived.Test.YtojinnnckfimhaaXperiodNominal
import Derived.Test.YtojinnnckfimhaaXdateMonths
import Derived.Test.YtojinnnckfimhaaXperiodNewA
namespace Go.Proofs.Ytojinnnckfimhaa.X
open Go.RowKit Go.Proofs.YtojinnnckfimhaaW.PrintWords Go.Proofs.YtojinnnckfimhaaW.PrintLast
set_option linter.unusedVariables false
set_option linter.unusedSimpArgs false

/-! ### period_length: function 41 -/
def period_length.f (a0 : Int) : Option (Int) := if a0 = 1 then (some 7) else (if a0 = 2 then (some 14) else (if a0 = 3 then (some 28) else (some 0)))
set_option maxHeartbeats 8000000 in
set_option maxRecDepth 100000 in
theorem period_length.calls (a0 : Int) (r : Int) (w : World) (h : period_length.f a0 = some r) :
  Calls Try.prog 41 #[.int .i64 a0] w fun e w' => e = .returned (.int .i64 r) ∧ Drawn0 w w' := by
 have H : (if a0 = 1 then (some 7) else (if a0 = 2 then (some 14) else (if a0 = 3 then (some 28) else (some 0)))) = some r := h
 clear h
 by_cases c2 : a0 = 1
 ·rw [if_pos c2] at H
  have c2b0 : (a0 == 1) = true := beq_iff_eq.mpr c2
  have c2b1 : (a0 != 1) = false := bne_eq_false_iff_eq.mpr c2
  clear c2
  obtain rfl := Option.some.inj H
  go_enter Try.func41, Try.ntmps41
  go_wp2
  go_ret
  exact ⟨by first | rfl | (simp; done) | (simp [*]; done), by repeat (first | exact Drawn0.refl _ | apply Drawn0.step)⟩
 ·rw [if_neg c2] at H
  have c2b0 : (a0 == 1) = false := beq_eq_false_iff_ne.mpr c2
  have c2b1 : (a0 != 1) = true := bne_iff_ne.mpr c2
  by_cases c3 : a0 = 2
  ·rw [if_pos c3] at H
   have c3b0 : (a0 == 2) = true := beq_iff_eq.mpr c3
   have c3b1 : (a0 != 2) = false := bne_eq_false_iff_eq.mpr c3
   clear c3
   obtain rfl := Option.some.inj H
   go_enter Try.func41, Try.ntmps41
   go_wp2
   go_ret
   exact ⟨by first | rfl | (simp; done) | (simp [*]; done), by repeat (first | exact Drawn0.refl _ | apply Drawn0.step)⟩
  ·rw [if_neg c3] at H
   have c3b0 : (a0 == 2) = false := beq_eq_false_iff_ne.mpr c3
   have c3b1 : (a0 != 2) = true := bne_iff_ne.mpr c3
   by_cases c4 : a0 = 3
   ·rw [if_pos c4] at H
    have c4b0 : (a0 == 3) = true := beq_iff_eq.mpr c4
    have c4b1 : (a0 != 3) = false := bne_eq_false_iff_eq.mpr c4
    clear c4
    obtain rfl := Option.some.inj H
    go_enter Try.func41, Try.ntmps41
    go_wp2
    go_ret
    exact ⟨by first | rfl | (simp; done) | (simp [*]; done), by repeat (first | exact Drawn0.refl _ | apply Drawn0.step)⟩
   ·rw [if_neg c4] at H
    have c4b0 : (a0 == 3) = false := beq_eq_false_iff_ne.mpr c4
    have c4b1 : (a0 != 3) = true := bne_iff_ne.mpr c4
    obtain rfl := Option.some.inj H
    go_enter Try.func41, Try.ntmps41
    go_wp2
    go_ret
    exact ⟨by first | rfl | (simp; done) | (simp [*]; done), by repeat (first | exact Drawn0.refl _ | apply Drawn0.step)⟩

/-! ### period_Year_Count: function 24 -/
def period_Year_Count.f (s0_0 : Int) (s0_1 : Int) (s0_2 : Int) (s0_3 : Int) (s0_4 : Int) (s0_5 : Int) (s0_6 : Int) (s0_7 : Int) (s0_8 : Int) : Option (Int × Int × Int × Int × Int × Int × Int × Int × Int × Int) := (period_length.f s0_0).bind fun t211 => (if t211 = 0 then ((period_Nominal.f s0_0).bind fun t212 => (some (t212, s0_0, s0_1, s0_2, s0_3, s0_4, s0_5, s0_6, s0_7, s0_8))) else (some (wrap64 (Int.tdiv (wrap64 ((wrap64 (s0_8 + t211)) - 1)) t211), s0_0, s0_1, s0_2, s0_3, s0_4, s0_5, s0_6, s0_7, s0_8)))
set_option maxHeartbeats 8000000 in
set_option maxRecDepth 100000 in
theorem period_Year_Count.calls (g : Nat) (s0_0 : Int) (s0_1 : Int) (s0_2 : Int) (s0_3 : Int) (s0_4 : Int) (s0_5 : Int) (s0_6 : Int) (s0_7 : Int) (s0_8 : Int) (r1 : Int) (r2 : Int) (r3 : Int) (r4 : Int) (r5 : Int) (r6 : Int) (r7 : Int) (r8 : Int) (r9 : Int) (r10 : Int) (w0 w : World) (hI : IsS62 w0 w g s0_0 s0_1 s0_2 s0_3 s0_4 s0_5 s0_6 s0_7 s0_8) (hB : Below w0.heap.size w0 w) (h : period_Year_Count.f s0_0 s0_1 s0_2 s0_3 s0_4 s0_5 s0_6 s0_7 s0_8 = some (r1, r2, r3, r4, r5, r6, r7, r8, r9, r10)) :
  Calls Try.prog 24 #[.pointer (some ⟨g, 0, none⟩)] w fun e w' => e = .returned (.int .i64 r1) ∧ IsS62 w0 w' g r2 r3 r4 r5 r6 r7 r8 r9 r10 ∧ Below w0.heap.size w0 w' ∧ KeepBut w w' g none := by
 have HI0 := a0_ hI
 have HK := a0_ (KeepBut.refl w g none)
 have HL := a0_ hB.size
 clear hI
 have HW0 := a0_ hB.size
 have HB := a0_ hB
 clear hB
 have H : ((period_length.f s0_0).bind fun t211 => (if t211 = 0 then ((period_Nominal.f s0_0).bind fun t212 => (some (t212, s0_0, s0_1, s0_2, s0_3, s0_4, s0_5, s0_6, s0_7, s0_8))) else (some (wrap64 (Int.tdiv (wrap64 ((wrap64 (s0_8 + t211)) - 1)) t211), s0_0, s0_1, s0_2, s0_3, s0_4, s0_5, s0_6, s0_7, s0_8)))) = some (r1, r2, r3, r4, r5, r6, r7, r8, r9, r10) := h
 clear h
 replace H := oB_ H
 obtain ⟨t211, A20, H⟩ := H
 replace H : (if t211 = 0 then ((period_Nominal.f s0_0).bind fun t212 => (some (t212, s0_0, s0_1, s0_2, s0_3, s0_4, s0_5, s0_6, s0_7, s0_8))) else (some (wrap64 (Int.tdiv (wrap64 ((wrap64 (s0_8 + t211)) - 1)) t211), s0_0, s0_1, s0_2, s0_3, s0_4, s0_5, s0_6, s0_7, s0_8))) = some (r1, r2, r3, r4, r5, r6, r7, r8, r9, r10) := H
 have A2 := a0_ A20
 clear A20
 by_cases c3 : t211 = 0
 ·rw [if_pos c3] at H
  have c3b0 : (t211 == 0) = true := beq_iff_eq.mpr c3
  have c3b1 : (t211 != 0) = false := bne_eq_false_iff_eq.mpr c3
  clear c3
  replace H := oB_ H
  obtain ⟨t212, A40, H⟩ := H
  replace H : (some (t212, s0_0, s0_1, s0_2, s0_3, s0_4, s0_5, s0_6, s0_7, s0_8)) = some (r1, r2, r3, r4, r5, r6, r7, r8, r9, r10) := H
  have A4 := a0_ A40
  clear A40
  simp only [Option.some.injEq, Prod.mk.injEq] at H
  obtain ⟨rfl, rfl, rfl, rfl, rfl, rfl, rfl, rfl, rfl, rfl⟩ := H
  obtain ⟨HGz5, hgz5⟩ := HI0.out
  have hcz5_0 := cellS62_0 HGz5
  have hcz5_1 := cellS62_1 HGz5
  have hcz5_2 := cellS62_2 HGz5
  have hcz5_3 := cellS62_3 HGz5
  have hcz5_4 := cellS62_4 HGz5
  have hcz5_5 := cellS62_5 HGz5
  have hcz5_6 := cellS62_6 HGz5
  have hcz5_7 := cellS62_7 HGz5
  have hcz5_8 := cellS62_8 HGz5
  have hfz5_0 := bF_ HGz5 0
  have hfz5_1 := bF_ HGz5 1
  have hfz5_2 := bF_ HGz5 2
  have hfz5_3 := bF_ HGz5 3
  have hfz5_4 := bF_ HGz5 4
  have hfz5_5 := bF_ HGz5 5
  have hfz5_6 := bF_ HGz5 6
  have hfz5_7 := bF_ HGz5 7
  have hfz5_8 := bF_ HGz5 8
  clear HGz5 hgz5
  go_enter Try.func24, Try.ntmps24
  go_wp2_with (first | ((with_reducible refine gate_callee (f := 41) rfl ?_); refine goesL_ (some 8) rfl rfl Try.func41 (by kernel_rfl) rfl #[.int .i64 s0_0] rfl (by (try simp only [List.map_toArray, List.map_cons, List.map_nil]); first | done | rfl) ?_; (with_reducible refine (period_length.calls s0_0 t211 _ A2.out).mono ?_); rintro e w' ⟨rfl, ⟨nd, rfl⟩⟩; refine ⟨_, rfl, ?_⟩) | ((with_reducible refine gate_callee (f := 11) rfl ?_); refine goesL_ (some 15) rfl rfl Try.func11 (by kernel_rfl) rfl #[.int .i64 s0_0] rfl (by (try simp only [List.map_toArray, List.map_cons, List.map_nil]); first | done | rfl) ?_; (with_reducible refine (period_Nominal.calls s0_0 t212 _ A4.out).mono ?_); rintro e w' ⟨rfl, ⟨nd, rfl⟩⟩; refine ⟨_, rfl, ?_⟩))
  go_ret
  exact ⟨by first | rfl | (simp [errW_none, errW_some] <;> rfl) | (simp [*, errW_none, errW_some] <;> rfl), by repeat (first | (with_reducible first | exact HI0.out | apply sA_ | apply sN_ | apply sD_) | exact HI0.out), by repeat (first | (with_reducible first | exact HB.out | apply lA_ | apply lN_ | apply lD_ | refine lS_ ?_ (sG_ HI0.out)) | exact HB.out), by repeat (first | (with_reducible first | exact HK.out | apply KeepBut.set_ | apply keep_drewN | apply keep_drew | apply keep_alloc) | exact HK.out)⟩
 ·rw [if_neg c3] at H
  have c3b0 : (t211 == 0) = false := beq_eq_false_iff_ne.mpr c3
  have c3b1 : (t211 != 0) = true := bne_iff_ne.mpr c3
  simp only [Option.some.injEq, Prod.mk.injEq] at H
  obtain ⟨rfl, rfl, rfl, rfl, rfl, rfl, rfl, rfl, rfl, rfl⟩ := H
  obtain ⟨HGz6, hgz6⟩ := HI0.out
  have hcz6_0 := cellS62_0 HGz6
  have hcz6_1 := cellS62_1 HGz6
  have hcz6_2 := cellS62_2 HGz6
  have hcz6_3 := cellS62_3 HGz6
  have hcz6_4 := cellS62_4 HGz6
  have hcz6_5 := cellS62_5 HGz6
  have hcz6_6 := cellS62_6 HGz6
  have hcz6_7 := cellS62_7 HGz6
  have hcz6_8 := cellS62_8 HGz6
  have hfz6_0 := bF_ HGz6 0
  have hfz6_1 := bF_ HGz6 1
  have hfz6_2 := bF_ HGz6 2
  have hfz6_3 := bF_ HGz6 3
  have hfz6_4 := bF_ HGz6 4
  have hfz6_5 := bF_ HGz6 5
  have hfz6_6 := bF_ HGz6 6
  have hfz6_7 := bF_ HGz6 7
  have hfz6_8 := bF_ HGz6 8
  clear HGz6 hgz6
  go_enter Try.func24, Try.ntmps24
  go_wp2_with (first | ((with_reducible refine gate_callee (f := 41) rfl ?_); refine goesL_ (some 8) rfl rfl Try.func41 (by kernel_rfl) rfl #[.int .i64 s0_0] rfl (by (try simp only [List.map_toArray, List.map_cons, List.map_nil]); first | done | rfl) ?_; (with_reducible refine (period_length.calls s0_0 t211 _ A2.out).mono ?_); rintro e w' ⟨rfl, ⟨nd, rfl⟩⟩; refine ⟨_, rfl, ?_⟩))
  go_ret
  exact ⟨by first | rfl | (simp [errW_none, errW_some] <;> rfl) | (simp [*, errW_none, errW_some] <;> rfl), by repeat (first | (with_reducible first | exact HI0.out | apply sA_ | apply sN_ | apply sD_) | exact HI0.out), by repeat (first | (with_reducible first | exact HB.out | apply lA_ | apply lN_ | apply lD_ | refine lS_ ?_ (sG_ HI0.out)) | exact HB.out), by repeat (first | (with_reducible first | exact HK.out | apply KeepBut.set_ | apply keep_drewN | apply keep_drew | apply keep_alloc) | exact HK.out)⟩

/-! ### period_short: function 46 -/
def period_short.f (k : Nat) (a0_0 : Int) (a0_1 : Int) (a0_2 : Int) (a1 : Int) : Option (Int × Int × Int) := (date_Months.f k a0_0 a0_1 1 a1).bind fun bt215 => ((date_Last.f k bt215.1 bt215.2.1).bind fun t220 => (some (bt215.1, bt215.2.1, mn a0_2 t220)))
def period_short.T2 : Bool × List (List Nat × List Nat) := (true, [([], []), ([0], [0]), ([], []), ([2], [2]), ([], []), ([4], [4]), ([3, 5], [3, 5]), ([1, 6], [1, 6]), ([0, 1, 2, 3, 4, 5, 6, 7], []), ([8, 7, 6, 0, 1, 2, 3, 4, 5, 6, 7], [7, 8])])
def period_short.B2 : List Nat := [0, 1, 0, 4, 0, 16, 60, 127, 255, 511]
theorem period_short.tab2 : rtab .any (opsOf Try.f46 2) = period_short.T2 := by kernel_rfl
theorem period_short.bits2 : waitsOk period_short.T2.2 period_short.B2 = true := by kernel_rfl
set_option maxHeartbeats 8000000 in
set_option maxRecDepth 100000 in
theorem period_short.calls (k : Nat) (a0_0 : Int) (a0_1 : Int) (a0_2 : Int) (a1 : Int) (r1 : Int) (r2 : Int) (r3 : Int) (w : World) (h : period_short.f k a0_0 a0_1 a0_2 a1 = some (r1, r2, r3)) :
  Calls Try.prog 46 #[.agg #[.int .i64 a0_0, .int .i64 a0_1, .int .i64 a0_2], .int .i64 a1] w fun e w' => e = .returned (.agg #[.int .i64 r1, .int .i64 r2, .int .i64 r3]) ∧ Below w.heap.size w w' := by
 have hu23 := Try.underlying23
 have HB := a0_ (Below.refl w.heap.size w)
 have H : ((date_Months.f k a0_0 a0_1 1 a1).bind fun bt215 => ((date_Last.f k bt215.1 bt215.2.1).bind fun t220 => (some (bt215.1, bt215.2.1, mn a0_2 t220)))) = some (r1, r2, r3) := h
 clear h
 replace H := oB_ H
 obtain ⟨⟨t215, t216, t217, t218⟩, A30, H⟩ := H
 replace H : ((date_Last.f k t215 t216).bind fun t220 => (some (t215, t216, mn a0_2 t220))) = some (r1, r2, r3) := H
 have A3 := a0_ A30
 clear A30
 replace H := oB_ H
 obtain ⟨t220, A40, H⟩ := H
 replace H : (some (t215, t216, mn a0_2 t220)) = some (r1, r2, r3) := H
 have A4 := a0_ A40
 clear A40
 obtain ⟨ji5, hji5⟩ : ∃ j_ : Int, (mn a0_2 t220) = j_ := ⟨_, rfl⟩
 replace H : (some (t215, t216, ji5)) = some (r1, r2, r3) := by first | (rw [hji5] at H; exact H) | (simp only [hji5] at H ⊢; exact H)
 (try rw [hji5] at A3)
 (try rw [hji5] at A4)
 have hji5_ : (if t220 < a0_2 then t220 else a0_2) = ji5 := hji5
 simp only [Option.some.injEq, Prod.mk.injEq] at H
 obtain ⟨rfl, rfl, rfl⟩ := H
 go_enter Try.func46, Try.ntmps46
 try go_wp2_with (first | ((with_reducible refine gate_dst (N := 2) rfl ?_); refine box_event ?hg (N := 2) ?hd (cs := #[.int .i64 a0_0, .int .i64 a0_1, .int .i64 a0_2]) (t := 23) ?hr ?_; (case hd => rfl); (case hg => rfl); (case hr => first | (go_simp; done) | (go_simp; rfl)); intro gb213 hg w6 hbox hb; have n0_ := a0_ (below_step (by repeat (first | (with_reducible first | exact HB.out | apply lA_ | apply lN_ | apply lD_) | exact HB.out)) hb); have n1_ := a0_ (hbox); have n2_ := a0_ ((by rw [hg]; exact (below_size (by repeat (first | (with_reducible first | exact HB.out | apply lA_ | apply lN_ | apply lD_) | exact HB.out))) : w.heap.size ≤ gb213)); have n3_ := a0_ ((by rw [hg]; exact (below_size (by repeat (first | (with_reducible first | exact HB.out | apply lA_ | apply lN_ | apply lD_) | exact HB.out))) : w.heap.size ≤ gb213)); clear HB; have HB := n0_; have BK213 := n1_; have GW213 := n2_; have GE213 := n3_; clear n0_ n1_ n2_ n3_; clear hb hbox hg) | ((with_reducible refine gate_dst (N := 4) rfl ?_); refine box_event ?hg (N := 4) ?hd (cs := #[.int .i64 0, .int .i64 0, .int .i64 0]) (t := 23) ?hr ?_; (case hd => rfl); (case hg => rfl); (case hr => first | (go_simp; done) | (go_simp; rfl)); intro gb214 hg w7 hbox hb; have n0_ := a0_ (bB_ (g := gb213) (o := .cells #[.int .i64 a0_0, .int .i64 a0_1, .int .i64 a0_2] 23 (0, 0)) (by (with_reducible repeat first | apply bN_ | apply bD_ | apply bA_); exact BK213.out) hb); have n1_ := a0_ (below_step (by repeat (first | (with_reducible first | exact HB.out | apply lA_ | apply lN_ | apply lD_ | refine lS_ ?_ GE213.out) | exact HB.out)) hb); have n2_ := a0_ (hbox); have n3_ := a0_ ((by rw [hg]; exact (below_size (by repeat (first | (with_reducible first | exact HB.out | apply lA_ | apply lN_ | apply lD_ | refine lS_ ?_ GE213.out) | exact HB.out))) : w.heap.size ≤ gb214)); have n4_ := a0_ ((by rw [hg]; exact (below_size (by repeat (first | (with_reducible first | exact HB.out | apply lA_ | apply lN_ | apply lD_ | refine lS_ ?_ GE213.out) | exact HB.out))) : w.heap.size ≤ gb214)); have n5_ := a0_ ((by rw [hg]; exact Nat.ne_of_lt (blk_lt (g := gb213) (o := .cells #[.int .i64 a0_0, .int .i64 a0_1, .int .i64 a0_2] 23 (0, 0)) (by (with_reducible repeat first | apply bN_ | apply bD_ | apply bA_); exact BK213.out)) : gb213 ≠ gb214)); have n6_ := a0_ ((by rw [hg]; exact Nat.ne_of_gt (blk_lt (g := gb213) (o := .cells #[.int .i64 a0_0, .int .i64 a0_1, .int .i64 a0_2] 23 (0, 0)) (by (with_reducible repeat first | apply bN_ | apply bD_ | apply bA_); exact BK213.out)) : gb214 ≠ gb213)); clear BK213; clear HB; have BK213 := n0_; have HB := n1_; have BK214 := n2_; have GW214 := n3_; have GE214 := n4_; have NB213_214 := n5_; have NB214_213 := n6_; clear n0_ n1_ n2_ n3_ n4_ n5_ n6_; clear hb hbox hg; have hnb8 := NB213_214.out; have hnc8 := NB214_213.out; have hcz9_0 : w7.cell? ⟨gb213, 0, none⟩ = some (.int .i64 a0_0) := (bC_ BK213.out 0).trans rfl; have hcz9_1 : w7.cell? ⟨gb213, 1, none⟩ = some (.int .i64 a0_1) := (bC_ BK213.out 1).trans rfl; have hcz9_2 : w7.cell? ⟨gb213, 2, none⟩ = some (.int .i64 a0_2) := (bC_ BK213.out 2).trans rfl; have hfz9_0 := bF_ BK213.out 0; have hfz9_1 := bF_ BK213.out 1; have hfz9_2 := bF_ BK213.out 2) | ((with_reducible refine gate_callee (f := 39) rfl ?_); refine goesL_ (some 14) rfl rfl Try.func39 (by kernel_rfl) rfl #[.agg #[.int .i64 a0_0, .int .i64 a0_1, .int .i64 1], .int .i64 a1] rfl (by (try simp only [List.map_toArray, List.map_cons, List.map_nil]); first | done | rfl) ?_; (with_reducible refine (date_Months.calls k a0_0 a0_1 1 a1 t215 t216 t217 t218 _ A3.out).mono ?_); rintro e w10 ⟨rfl, hb⟩; refine ⟨_, rfl, ?_⟩; have n0_ := a0_ (bB_ (g := gb213) (o := .cells #[.int .i64 a0_0, .int .i64 a0_1, .int .i64 a0_2] 23 (0, 0)) (by (with_reducible repeat first | apply bN_ | apply bD_ | apply bA_); exact BK213.out) hb); have n1_ := a0_ (bB_ (g := gb214) (o := .cells #[.int .i64 0, .int .i64 0, .int .i64 0] 23 (0, 0)) (by (with_reducible repeat first | apply bN_ | apply bD_ | apply bA_); exact BK214.out) hb); have n2_ := a0_ (below_step (by repeat (first | (with_reducible first | exact HB.out | apply lA_ | apply lN_ | apply lD_ | refine lS_ ?_ GE213.out | refine lS_ ?_ GE214.out) | exact HB.out)) hb); clear BK213; clear BK214; clear HB; have BK213 := n0_; have BK214 := n1_; have HB := n2_; clear n0_ n1_ n2_; (try clear hb); (try clear hb2); (try clear hk); (try clear hi)) | ((with_reducible refine gate_dst (N := 5) rfl ?_); refine box_event ?hg (N := 5) ?hd (cs := #[.int .i64 0, .int .i64 0, .int .i64 0]) (t := 23) ?hr ?_; (case hd => rfl); (case hg => rfl); (case hr => first | (go_simp; done) | (go_simp; rfl)); intro gb219 hg w11 hbox hb; have n0_ := a0_ (bB_ (g := gb213) (o := .cells #[.int .i64 a0_0, .int .i64 a0_1, .int .i64 a0_2] 23 (0, 0)) (by (with_reducible repeat first | apply bN_ | apply bD_ | apply bA_); exact BK213.out) hb); have n1_ := a0_ (bB_ (g := gb214) (o := .cells #[.int .i64 0, .int .i64 0, .int .i64 0] 23 (0, 0)) (by (with_reducible repeat first | apply bN_ | apply bD_ | apply bA_); exact BK214.out) hb); have n2_ := a0_ (below_step (by repeat (first | (with_reducible first | exact HB.out | apply lA_ | apply lN_ | apply lD_ | refine lS_ ?_ GE213.out | refine lS_ ?_ GE214.out) | exact HB.out)) hb); have n3_ := a0_ (hbox); have n4_ := a0_ ((by rw [hg]; exact (below_size (by repeat (first | (with_reducible first | exact HB.out | apply lA_ | apply lN_ | apply lD_ | refine lS_ ?_ GE213.out | refine lS_ ?_ GE214.out) | exact HB.out))) : w.heap.size ≤ gb219)); have n5_ := a0_ ((by rw [hg]; exact (below_size (by repeat (first | (with_reducible first | exact HB.out | apply lA_ | apply lN_ | apply lD_ | refine lS_ ?_ GE213.out | refine lS_ ?_ GE214.out) | exact HB.out))) : w.heap.size ≤ gb219)); have n6_ := a0_ ((by rw [hg]; exact Nat.ne_of_lt (blk_lt (g := gb213) (o := .cells #[.int .i64 a0_0, .int .i64 a0_1, .int .i64 a0_2] 23 (0, 0)) (by (with_reducible repeat first | apply bN_ | apply bD_ | apply bA_); exact BK213.out)) : gb213 ≠ gb219)); have n7_ := a0_ ((by rw [hg]; exact Nat.ne_of_gt (blk_lt (g := gb213) (o := .cells #[.int .i64 a0_0, .int .i64 a0_1, .int .i64 a0_2] 23 (0, 0)) (by (with_reducible repeat first | apply bN_ | apply bD_ | apply bA_); exact BK213.out)) : gb219 ≠ gb213)); have n8_ := a0_ ((by rw [hg]; exact Nat.ne_of_lt (blk_lt (g := gb214) (o := .cells #[.int .i64 0, .int .i64 0, .int .i64 0] 23 (0, 0)) (by (with_reducible repeat first | apply bN_ | apply bD_ | apply bA_); exact BK214.out)) : gb214 ≠ gb219)); have n9_ := a0_ ((by rw [hg]; exact Nat.ne_of_gt (blk_lt (g := gb214) (o := .cells #[.int .i64 0, .int .i64 0, .int .i64 0] 23 (0, 0)) (by (with_reducible repeat first | apply bN_ | apply bD_ | apply bA_); exact BK214.out)) : gb219 ≠ gb214)); clear BK213; clear BK214; clear HB; have BK213 := n0_; have BK214 := n1_; have HB := n2_; have BK219 := n3_; have GW219 := n4_; have GE219 := n5_; have NB213_219 := n6_; have NB219_213 := n7_; have NB214_219 := n8_; have NB219_214 := n9_; clear n0_ n1_ n2_ n3_ n4_ n5_ n6_ n7_ n8_ n9_; clear hb hbox hg; have hnb12 := NB219_213.out; have hnc12 := NB213_219.out; have hnb13 := NB219_214.out; have hnc13 := NB214_219.out; have hcz14_0 : w11.cell? ⟨gb219, 0, none⟩ = some (.int .i64 0) := (bC_ BK219.out 0).trans rfl; have hcz14_1 : w11.cell? ⟨gb219, 1, none⟩ = some (.int .i64 0) := (bC_ BK219.out 1).trans rfl; have hcz14_2 : w11.cell? ⟨gb219, 2, none⟩ = some (.int .i64 0) := (bC_ BK219.out 2).trans rfl; have hfz14_0 := bF_ BK219.out 0; have hfz14_1 := bF_ BK219.out 1; have hfz14_2 := bF_ BK219.out 2))
 have n0_ : Aside0 ((((w11.setCell ⟨gb219, 0, none⟩ (.int .i64 t215)).setCell ⟨gb219, 1, none⟩ (.int .i64 t216)).setCell ⟨gb219, 2, none⟩ (.int .i64 t217)).heap[gb213]? = some (.cells #[.int .i64 a0_0, .int .i64 a0_1, .int .i64 a0_2] 23 (0, 0))) := ⟨by (with_reducible repeat first | apply bN_ | apply bD_ | apply bA_); refine blk_far ?_ NB213_219.out _; (with_reducible repeat first | apply bN_ | apply bD_ | apply bA_); refine blk_far ?_ NB213_219.out _; (with_reducible repeat first | apply bN_ | apply bD_ | apply bA_); refine blk_far ?_ NB213_219.out _; (with_reducible repeat first | apply bN_ | apply bD_ | apply bA_); exact BK213.out⟩
 have n1_ : Aside0 ((((w11.setCell ⟨gb219, 0, none⟩ (.int .i64 t215)).setCell ⟨gb219, 1, none⟩ (.int .i64 t216)).setCell ⟨gb219, 2, none⟩ (.int .i64 t217)).heap[gb214]? = some (.cells #[.int .i64 0, .int .i64 0, .int .i64 0] 23 (0, 0))) := ⟨by (with_reducible repeat first | apply bN_ | apply bD_ | apply bA_); refine blk_far ?_ NB214_219.out _; (with_reducible repeat first | apply bN_ | apply bD_ | apply bA_); refine blk_far ?_ NB214_219.out _; (with_reducible repeat first | apply bN_ | apply bD_ | apply bA_); refine blk_far ?_ NB214_219.out _; (with_reducible repeat first | apply bN_ | apply bD_ | apply bA_); exact BK214.out⟩
 have n2_ : Aside0 ((((w11.setCell ⟨gb219, 0, none⟩ (.int .i64 t215)).setCell ⟨gb219, 1, none⟩ (.int .i64 t216)).setCell ⟨gb219, 2, none⟩ (.int .i64 t217)).heap[gb219]? = some (.cells #[.int .i64 t215, .int .i64 t216, .int .i64 t217] 23 (0, 0))) := ⟨by (with_reducible repeat first | apply bN_ | apply bD_ | apply bA_); refine blk_put (cs := #[.int .i64 t215, .int .i64 t216, .int .i64 0]) ?_ 2 _ rfl; (with_reducible repeat first | apply bN_ | apply bD_ | apply bA_); refine blk_put (cs := #[.int .i64 t215, .int .i64 0, .int .i64 0]) ?_ 1 _ rfl; (with_reducible repeat first | apply bN_ | apply bD_ | apply bA_); refine blk_put (cs := #[.int .i64 0, .int .i64 0, .int .i64 0]) ?_ 0 _ rfl; (with_reducible repeat first | apply bN_ | apply bD_ | apply bA_); exact BK219.out⟩
 have n3_ : Aside0 (Below w.heap.size w (((w11.setCell ⟨gb219, 0, none⟩ (.int .i64 t215)).setCell ⟨gb219, 1, none⟩ (.int .i64 t216)).setCell ⟨gb219, 2, none⟩ (.int .i64 t217))) := ⟨by repeat (first | (with_reducible first | exact HB.out | apply lA_ | apply lN_ | apply lD_ | refine lS_ ?_ GE213.out | refine lS_ ?_ GE214.out | refine lS_ ?_ GE219.out) | exact HB.out)⟩
 (try clear BK213)
 (try clear BK214)
 (try clear BK219)
 (try clear HB)
 generalize (((w11.setCell ⟨gb219, 0, none⟩ (.int .i64 t215)).setCell ⟨gb219, 1, none⟩ (.int .i64 t216)).setCell ⟨gb219, 2, none⟩ (.int .i64 t217)) = w15 at n0_ n1_ n2_ n3_ ⊢
 have BK213 := n0_
 have BK214 := n1_
 have BK219 := n2_
 have HB := n3_
 clear n0_ n1_ n2_ n3_
 have n0_ := a0_ (bD_ BK213.out)
 have n1_ := a0_ (bD_ BK214.out)
 have n2_ := a0_ (bD_ BK219.out)
 have n3_ := a0_ (lD_ HB.out)
 clear BK213
 clear BK214
 clear BK219
 clear HB
 have BK213 := n0_
 have BK214 := n1_
 have BK219 := n2_
 have HB := n3_
 clear n0_ n1_ n2_ n3_
 refine start_ (n := 10) (S := fun w' => w'.cell? ⟨gb213, 0, none⟩ = some (.int .i64 a0_0) ∧ w'.cell? ⟨gb213, 1, none⟩ = some (.int .i64 a0_1) ∧ w'.cell? ⟨gb213, 2, none⟩ = some (.int .i64 a0_2) ∧ w'.cell? ⟨gb219, 0, none⟩ = some (.int .i64 t215) ∧ w'.cell? ⟨gb219, 1, none⟩ = some (.int .i64 t216) ∧ w'.cell? ⟨gb219, 2, none⟩ = some (.int .i64 t217)) (ds := [9]) #[false, false, false, false, false, false, false, false, false, false] (by kernel_rfl) rfl rfl ⟨(bC_ BK213.out 0).trans rfl, (bC_ BK213.out 1).trans rfl, (bC_ BK213.out 2).trans rfl, (bC_ BK219.out 0).trans rfl, (bC_ BK219.out 1).trans rfl, (bC_ BK219.out 2).trans rfl⟩ (fun hHeld => ?_); refine with_tabW period_short.tab2 period_short.bits2 (fun HT_ HW_ => ?_)
 generalize w15.drew = w16 at BK213 BK214 BK219 HB hHeld ⊢
 refine pure_ (i := 0) (N := some 17) (v := ?_) (a' := ?_) #[true, false, false, false, false, false, false, false, false, false] rfl rfl (any_of HT_.out (by kernel_rfl)) (fun _ _ _ h => h) (Or.inl ⟨by rfl, ?_⟩) ?_ ?_
 rotate_left
 ·intro w'
  go_simp
  with_reducible rfl
 rotate_left
 ·simp only [Act.put, zA_, zB_, zC_, i64_w, i32_w]
  rfl
 refine pure_ (i := 2) (N := some 19) (v := ?_) (a' := ?_) #[true, false, true, false, false, false, false, false, false, false] rfl rfl (any_of HT_.out (by kernel_rfl)) (fun _ _ _ h => h) (Or.inl ⟨by rfl, ?_⟩) ?_ ?_
 rotate_left
 ·intro w'
  go_simp
  with_reducible rfl
 rotate_left
 ·simp only [Act.put, zA_, zB_, zC_, i64_w, i32_w]
  rfl
 refine pure_ (i := 4) (N := some 21) (v := ?_) (a' := ?_) #[true, false, true, false, true, false, false, false, false, false] rfl rfl (any_of HT_.out (by kernel_rfl)) (fun _ _ _ h => h) (Or.inl ⟨by rfl, ?_⟩) ?_ ?_
 rotate_left
 ·intro w'
  go_simp
  with_reducible rfl
 rotate_left
 ·simp only [Act.put, zA_, zB_, zC_, i64_w, i32_w]
  rfl
 refine take_ (i := 1) (N := some 18) (v := ?_) (a' := ?_) #[true, true, true, false, true, false, false, false, false, false] rfl rfl (take_ofW HT_.out HW_.out (by kernel_rfl)) (fun _ _ _ h => h) (Or.inl ⟨by rfl, ?_⟩) hHeld ?_ ?_
 rotate_left
 ·rintro w' ⟨s0, s1, s2, s3, s4, s5⟩
  go_simp
  with_reducible rfl
 rotate_left
 ·simp only [Act.put, zA_, zB_, zC_, i64_w, i32_w]
  rfl
 refine take_ (i := 3) (N := some 20) (v := ?_) (a' := ?_) #[true, true, true, true, true, false, false, false, false, false] rfl rfl (take_ofW HT_.out HW_.out (by kernel_rfl)) (fun _ _ _ h => h) (Or.inl ⟨by rfl, ?_⟩) hHeld ?_ ?_
 rotate_left
 ·rintro w' ⟨s0, s1, s2, s3, s4, s5⟩
  go_simp
  with_reducible rfl
 rotate_left
 ·simp only [Act.put, zA_, zB_, zC_, i64_w, i32_w]
  rfl
 refine take_ (i := 5) (N := some 22) (v := ?_) (a' := ?_) #[true, true, true, true, true, true, false, false, false, false] rfl rfl (take_ofW HT_.out HW_.out (by kernel_rfl)) (fun _ _ _ h => h) (Or.inl ⟨by rfl, ?_⟩) hHeld ?_ ?_
 rotate_left
 ·rintro w' ⟨s0, s1, s2, s3, s4, s5⟩
  go_simp
  with_reducible rfl
 rotate_left
 ·simp only [Act.put, zA_, zB_, zC_, i64_w, i32_w]
  rfl
 refine one_ (i := 6) (N := some 23) #[true, true, true, true, true, true, true, false, false, false] rfl rfl (one_of HT_.out (by kernel_rfl)) (by decide) (fun K hK => ?_)
 refine goes_ Try.func48 (by kernel_rfl) rfl #[.int .i64 t215, .int .i64 t216] (by rfl) rfl rfl (by (try simp only [List.map_toArray, List.map_cons, List.map_nil]); first | done | rfl) ?_
 with_reducible refine (date_Last.calls k t215 t216 t220 _ A4.out).mono ?_
 rintro e w' ⟨rfl, ⟨nd, rfl⟩⟩
 refine ⟨_, rfl, ?_⟩
 refine hK.out _ _ ⟨(bC_ BK213.out 0).trans rfl, (bC_ BK213.out 1).trans rfl, (bC_ BK213.out 2).trans rfl, (bC_ BK219.out 0).trans rfl, (bC_ BK219.out 1).trans rfl, (bC_ BK219.out 2).trans rfl⟩ (fun hHeld => ?_)
 clear hK K
 refine norm_ (a' := ?_) ?_ ?_
 rotate_left
 ·show Act.put _ (some 23) _ = _
  simp only [Act.put, zA_, zB_, zC_, i64_w, i32_w]
  rfl
 refine pure_ (i := 7) (N := some 24) (v := ?_) (a' := ?_) #[true, true, true, true, true, true, true, true, false, false] rfl rfl (any_of HT_.out (by kernel_rfl)) (fun _ _ _ h => h) (Or.inl ⟨by rfl, ?_⟩) ?_ ?_
 rotate_left
 ·intro w'
  go_simp
  with_reducible rfl
 rotate_left
 ·simp only [Act.put, zA_, zB_, zC_, i64_w, i32_w]
  rfl
 refine pure_ (i := 8) (N := some 25) (v := ?_) (a' := ?_) #[true, true, true, true, true, true, true, true, true, false] rfl rfl (any_of HT_.out (by kernel_rfl)) (fun _ _ _ h => h) (Or.inl ⟨by rfl, ?_⟩) ?_ ?_
 rotate_left
 ·intro w'
  go_simp
  with_reducible rfl
 rotate_left
 ·simp only [Act.put, zA_, zB_, zC_, i64_w, i32_w]
  rfl
 refine last_ (i := 9) (N := none) #[true, true, true, true, true, true, true, true, true, true] rfl rfl (one_of HT_.out (by kernel_rfl)) (by decide) (fun K hK => ?_)
 have hs17 : w16.cell? ⟨gb219, 2, none⟩ = some (.int .i64 t217) := (bC_ BK219.out 2).trans rfl
 have hfs17 := bF_ BK219.out 2
 have hns17_0 := NB213_219.out
 have hns17_1 := NB214_219.out
 have hms17_0 := NB219_213.out
 have hms17_1 := NB219_214.out
 refine skip_ (w1 := ?_) (by rfl) rfl ?_ ?_
 rotate_left
 ·go_simp
  rfl
 refine hK.out _ _ ?_
 clear hK K
 refine done_ (done_of HT_.out (by kernel_rfl)) ?_
 have hcz18_0 : w16.cell? ⟨gb219, 0, none⟩ = some (.int .i64 t215) := (bC_ BK219.out 0).trans rfl
 have hcz18_1 : w16.cell? ⟨gb219, 1, none⟩ = some (.int .i64 t216) := (bC_ BK219.out 1).trans rfl
 have hcz18_2 : w16.cell? ⟨gb219, 2, none⟩ = some (.int .i64 t217) := (bC_ BK219.out 2).trans rfl
 have hfz18_0 := bF_ BK219.out 0
 have hfz18_1 := bF_ BK219.out 1
 have hfz18_2 := bF_ BK219.out 2
 have hcz19_0 : w16.cell? ⟨gb214, 0, none⟩ = some (.int .i64 0) := (bC_ BK214.out 0).trans rfl
 have hcz19_1 : w16.cell? ⟨gb214, 1, none⟩ = some (.int .i64 0) := (bC_ BK214.out 1).trans rfl
 have hcz19_2 : w16.cell? ⟨gb214, 2, none⟩ = some (.int .i64 0) := (bC_ BK214.out 2).trans rfl
 have hfz19_0 := bF_ BK214.out 0
 have hfz19_1 := bF_ BK214.out 1
 have hfz19_2 := bF_ BK214.out 2
 try go_wp2
 refine bodyPost_ret (results_cell_row rfl _ _ gb214 23 #[.int .i64 t215, .int .i64 t216, .int .i64 ji5] (0, 0) _ rfl (by (with_reducible repeat first | apply bN_ | apply bD_ | apply bA_); refine blk_put (cs := #[.int .i64 t215, .int .i64 t216, .int .i64 0]) ?_ 2 _ rfl; (with_reducible repeat first | apply bN_ | apply bD_ | apply bA_); refine blk_put (cs := #[.int .i64 t215, .int .i64 0, .int .i64 0]) ?_ 1 _ rfl; (with_reducible repeat first | apply bN_ | apply bD_ | apply bA_); refine blk_put (cs := #[.int .i64 0, .int .i64 0, .int .i64 0]) ?_ 0 _ rfl; (with_reducible repeat first | apply bN_ | apply bD_ | apply bA_); refine blk_far ?_ NB214_219.out _; (with_reducible repeat first | apply bN_ | apply bD_ | apply bA_); exact BK214.out) Try.underlying23 rfl (by kernel_rfl)) rfl ?_
 exact ⟨by first | rfl | (simp [errW_none, errW_some] <;> rfl) | (simp only [← hji5]; first | rfl | (simp [errW_none, errW_some] <;> rfl)) | (simp [*, errW_none, errW_some] <;> rfl), by repeat (first | (with_reducible first | exact HB.out | apply lA_ | apply lN_ | apply lD_ | refine lS_ ?_ GE213.out | refine lS_ ?_ GE214.out | refine lS_ ?_ GE219.out) | exact HB.out)⟩

end Go.Proofs.Ytojinnnckfimhaa.X
