-- laid by the session's own program (xprint.py) out of Lean's print of the program; Lean checks it
import Derived.Test.YtojinnnckfimhaaX0
import Derived.Test.YtojinnnckfimhaaXperiodNominal
import Derived.Test.YtojinnnckfimhaaXperiodNewA
import Derived.Test.YtojinnnckfimhaaXperiodlength
namespace Go.Proofs.Ytojinnnckfimhaa.X
open Go.RowKit Go.Proofs.YtojinnnckfimhaaW.PrintWords Go.Proofs.YtojinnnckfimhaaW.PrintLast
set_option linter.unusedVariables false
set_option linter.unusedSimpArgs false

/-! ### period_Year_Freq: function 22 -/
def period_Year_Freq.f (s0_0 : Int) (s0_1 : Int) (s0_2 : Int) (s0_3 : Int) (s0_4 : Int) (s0_5 : Int) (s0_6 : Int) (s0_7 : Int) (s0_8 : Int) : Option (Int × Int × Int × Int × Int × Int × Int × Int × Int × Int) := some (s0_0, s0_0, s0_1, s0_2, s0_3, s0_4, s0_5, s0_6, s0_7, s0_8)
set_option maxHeartbeats 8000000 in
set_option maxRecDepth 100000 in
theorem period_Year_Freq.calls (g : Nat) (s0_0 : Int) (s0_1 : Int) (s0_2 : Int) (s0_3 : Int) (s0_4 : Int) (s0_5 : Int) (s0_6 : Int) (s0_7 : Int) (s0_8 : Int) (r1 : Int) (r2 : Int) (r3 : Int) (r4 : Int) (r5 : Int) (r6 : Int) (r7 : Int) (r8 : Int) (r9 : Int) (r10 : Int) (w0 w : World) (hI : IsS62 w0 w g s0_0 s0_1 s0_2 s0_3 s0_4 s0_5 s0_6 s0_7 s0_8) (hB : Below w0.heap.size w0 w) (h : period_Year_Freq.f s0_0 s0_1 s0_2 s0_3 s0_4 s0_5 s0_6 s0_7 s0_8 = some (r1, r2, r3, r4, r5, r6, r7, r8, r9, r10)) :
  Calls Try.prog 22 #[.pointer (some ⟨g, 0, none⟩)] w fun e w' => e = .returned (.int .i64 r1) ∧ IsS62 w0 w' g r2 r3 r4 r5 r6 r7 r8 r9 r10 ∧ Below w0.heap.size w0 w' ∧ KeepBut w w' g none := by
 have HI0 := a0_ hI
 have HK := a0_ (KeepBut.refl w g none)
 have HL := a0_ hB.size
 clear hI
 have HW0 := a0_ hB.size
 have HB := a0_ hB
 clear hB
 have H : (some (s0_0, s0_0, s0_1, s0_2, s0_3, s0_4, s0_5, s0_6, s0_7, s0_8)) = some (r1, r2, r3, r4, r5, r6, r7, r8, r9, r10) := h
 clear h
 simp only [Option.some.injEq, Prod.mk.injEq] at H
 obtain ⟨rfl, rfl, rfl, rfl, rfl, rfl, rfl, rfl, rfl, rfl⟩ := H
 obtain ⟨HGz2, hgz2⟩ := HI0.out
 have hcz2_0 := cellS62_0 HGz2
 have hcz2_1 := cellS62_1 HGz2
 have hcz2_2 := cellS62_2 HGz2
 have hcz2_3 := cellS62_3 HGz2
 have hcz2_4 := cellS62_4 HGz2
 have hcz2_5 := cellS62_5 HGz2
 have hcz2_6 := cellS62_6 HGz2
 have hcz2_7 := cellS62_7 HGz2
 have hcz2_8 := cellS62_8 HGz2
 have hfz2_0 := bF_ HGz2 0
 have hfz2_1 := bF_ HGz2 1
 have hfz2_2 := bF_ HGz2 2
 have hfz2_3 := bF_ HGz2 3
 have hfz2_4 := bF_ HGz2 4
 have hfz2_5 := bF_ HGz2 5
 have hfz2_6 := bF_ HGz2 6
 have hfz2_7 := bF_ HGz2 7
 have hfz2_8 := bF_ HGz2 8
 clear HGz2 hgz2
 go_enter Try.func22, Try.ntmps22
 go_wp2
 go_ret
 exact ⟨by first | rfl | (simp [errW_none, errW_some] <;> rfl) | (simp [*, errW_none, errW_some] <;> rfl), by repeat (first | (with_reducible first | exact HI0.out | apply sA_ | apply sN_ | apply sD_) | exact HI0.out), by repeat (first | (with_reducible first | exact HB.out | apply lA_ | apply lN_ | apply lD_ | refine lS_ ?_ (sG_ HI0.out)) | exact HB.out), by repeat (first | (with_reducible first | exact HK.out | apply KeepBut.set_ | apply keep_drewN | apply keep_drew | apply keep_alloc) | exact HK.out)⟩

/-! ### period_Year_Part: function 25 -/
def period_Year_Part.j0 : Nat → Int → Bool → Int → Int → Int → Int → Int → Int → Int → Int → Int → Option (Int × Int × Int × Int × Int × Int × Int × Int × Int × Int × Int × Int)
 | 0, _, _, _, _, _, _, _, _, _, _, _ => none
 | k + 1, x1, x14, x1000, x1001, x1002, x1003, x1004, x1005, x1006, x1007, x1008 => if x14 = true then (some (0, 0, 1, x1000, x1001, x1002, x1003, x1004, x1005, x1006, x1007, x1008)) else ((period_Nominal.f x1000).bind fun t320 => ((period_Nominal.f x1000).bind fun t321 => (some (mn x1 t320, t321, 0, x1000, x1001, x1002, x1003, x1004, x1005, x1006, x1007, x1008))))
def period_Year_Part.f (k : Nat) (s0_0 : Int) (s0_1 : Int) (s0_2 : Int) (s0_3 : Int) (s0_4 : Int) (s0_5 : Int) (s0_6 : Int) (s0_7 : Int) (s0_8 : Int) (a1 : Int) : Option (Int × Int × Int × Int × Int × Int × Int × Int × Int × Int × Int × Int) := if a1 < 1 then (period_Year_Part.j0 k a1 true s0_0 s0_1 s0_2 s0_3 s0_4 s0_5 s0_6 s0_7 s0_8) else ((period_Year_Count.f s0_0 s0_1 s0_2 s0_3 s0_4 s0_5 s0_6 s0_7 s0_8).bind fun bt310 => (period_Year_Part.j0 k a1 (decide (a1 > bt310.1)) bt310.2.1 bt310.2.2.1 bt310.2.2.2.1 bt310.2.2.2.2.1 bt310.2.2.2.2.2.1 bt310.2.2.2.2.2.2.1 bt310.2.2.2.2.2.2.2.1 bt310.2.2.2.2.2.2.2.2.1 bt310.2.2.2.2.2.2.2.2.2))
set_option maxHeartbeats 8000000 in
set_option maxRecDepth 100000 in
theorem period_Year_Part.calls (k : Nat) (g : Nat) (s0_0 : Int) (s0_1 : Int) (s0_2 : Int) (s0_3 : Int) (s0_4 : Int) (s0_5 : Int) (s0_6 : Int) (s0_7 : Int) (s0_8 : Int) (a1 : Int) (r1 : Int) (r2 : Int) (r3 : Int) (r4 : Int) (r5 : Int) (r6 : Int) (r7 : Int) (r8 : Int) (r9 : Int) (r10 : Int) (r11 : Int) (r12 : Int) (w0 w : World) (hI : IsS62 w0 w g s0_0 s0_1 s0_2 s0_3 s0_4 s0_5 s0_6 s0_7 s0_8) (hB : Below w0.heap.size w0 w) (h : period_Year_Part.f k s0_0 s0_1 s0_2 s0_3 s0_4 s0_5 s0_6 s0_7 s0_8 a1 = some (r1, r2, r3, r4, r5, r6, r7, r8, r9, r10, r11, r12)) :
  Calls Try.prog 25 #[.pointer (some ⟨g, 0, none⟩), .int .i64 a1] w fun e w' => e = .returned (.tuple #[.int .i64 r1, .int .i64 r2, .int .i64 r3]) ∧ IsS62 w0 w' g r4 r5 r6 r7 r8 r9 r10 r11 r12 ∧ Below w0.heap.size w0 w' ∧ KeepBut w w' g none := by
 have HI0 := a0_ hI
 have HK := a0_ (KeepBut.refl w g none)
 have HL := a0_ hB.size
 clear hI
 have HW0 := a0_ hB.size
 have HB := a0_ hB
 clear hB
 have H : (if a1 < 1 then (period_Year_Part.j0 k a1 true s0_0 s0_1 s0_2 s0_3 s0_4 s0_5 s0_6 s0_7 s0_8) else ((period_Year_Count.f s0_0 s0_1 s0_2 s0_3 s0_4 s0_5 s0_6 s0_7 s0_8).bind fun bt310 => (period_Year_Part.j0 k a1 (decide (a1 > bt310.1)) bt310.2.1 bt310.2.2.1 bt310.2.2.2.1 bt310.2.2.2.2.1 bt310.2.2.2.2.2.1 bt310.2.2.2.2.2.2.1 bt310.2.2.2.2.2.2.2.1 bt310.2.2.2.2.2.2.2.2.1 bt310.2.2.2.2.2.2.2.2.2))) = some (r1, r2, r3, r4, r5, r6, r7, r8, r9, r10, r11, r12) := h
 clear h
 have HC3 := a0_ H
 clear H
 go_enter Try.func25, Try.ntmps25
 go_upto_region 1 with (fail)
 repeat (go_quiet (fail); go_upto_region 1 with (fail))
 go_cut [14] (fun v14 wc => ∃ (kq : Nat) (x14_2 : Bool) (x1000_2 : Int) (x1001_2 : Int) (x1002_2 : Int) (x1003_2 : Int) (x1004_2 : Int) (x1005_2 : Int) (x1006_2 : Int) (x1007_2 : Int) (x1008_2 : Int), v14 = .bool x14_2 ∧ Aside0 (period_Year_Part.j0 kq a1 x14_2 x1000_2 x1001_2 x1002_2 x1003_2 x1004_2 x1005_2 x1006_2 x1007_2 x1008_2 = some (r1, r2, r3, r4, r5, r6, r7, r8, r9, r10, r11, r12)) ∧ Aside0 (kq ≤ k) ∧ Aside0 (IsS62 w0 wc g x1000_2 x1001_2 x1002_2 x1003_2 x1004_2 x1005_2 x1006_2 x1007_2 x1008_2) ∧ Aside0 (KeepBut w wc g none) ∧ Aside0 (Below w0.heap.size w0 wc))
 case first =>
  have H := HC3.out
  clear HC3
  by_cases c4 : a1 < 1
  ·rw [if_pos c4] at H
   have c4b0 : decide (a1 < 1) = true := decide_eq_true c4
   clear c4
   (first | rw [c4b0] | (simp only [i64_w, i32_w]; rw [c4b0]) | skip)
   have H' := a0_ H
   clear H
   go_wp2
   repeat (go_quiet (fail); try go_wp2)
   go_meet
   case rel => exact ⟨_, (true), (s0_0), (s0_1), (s0_2), (s0_3), (s0_4), (s0_5), (s0_6), (s0_7), (s0_8), (by first | rfl | (simp; done) | (simp [*]; done)), H', ⟨by first | omega | exact Nat.le_refl _⟩, ⟨by repeat (first | (with_reducible first | exact HI0.out | apply sA_ | apply sN_ | apply sD_) | exact HI0.out)⟩, ⟨by repeat (first | (with_reducible first | exact HK.out | apply KeepBut.set_ | apply keep_drewN | apply keep_drew | apply keep_alloc) | exact HK.out)⟩, ⟨by repeat (first | (with_reducible first | exact HB.out | apply lA_ | apply lN_ | apply lD_ | refine lS_ ?_ (sG_ HI0.out)) | exact HB.out)⟩⟩
  ·rw [if_neg c4] at H
   have c4b0 : decide (a1 < 1) = false := decide_eq_false c4
   clear c4
   (first | rw [c4b0] | (simp only [i64_w, i32_w]; rw [c4b0]) | skip)
   replace H := oB_ H
   obtain ⟨⟨t310, t311, t312, t313, t314, t315, t316, t317, t318, t319⟩, A50, H⟩ := H
   replace H : (period_Year_Part.j0 k a1 (decide (a1 > t310)) t311 t312 t313 t314 t315 t316 t317 t318 t319) = some (r1, r2, r3, r4, r5, r6, r7, r8, r9, r10, r11, r12) := H
   have A5 := a0_ A50
   clear A50
   have H' := a0_ H
   clear H
   go_wp2_with (first | (go_at_call 24; (with_reducible refine (period_Year_Count.calls g s0_0 s0_1 s0_2 s0_3 s0_4 s0_5 s0_6 s0_7 s0_8 t310 t311 t312 t313 t314 t315 t316 t317 t318 t319 w0 _ ?side1 ?side2 A5.out).mono ?_); (case side1 => repeat (first | (with_reducible first | exact HI0.out | apply sA_ | apply sN_ | apply sD_) | exact HI0.out)); (case side2 => repeat (first | (with_reducible first | exact HB.out | apply lA_ | apply lN_ | apply lD_ | refine lS_ ?_ (sG_ HI0.out)) | exact HB.out)); rintro e w6 ⟨rfl, hi, hb, hk⟩; have n0_ := a0_ (KeepBut.trans (by repeat (first | (with_reducible first | exact HK.out | apply KeepBut.set_ | apply keep_drewN | apply keep_drew | apply keep_alloc) | exact HK.out)) hk (.inl rfl)); have n1_ := a0_ (hb); have n2_ := a0_ (hi); clear HK; clear HB; clear HI0; have HK := n0_; have HB := n1_; have HI0 := n2_; clear n0_ n1_ n2_; (try clear hb); (try clear hb2); (try clear hk); (try clear hi)))
   repeat (go_quiet (first | (go_at_call 24; (with_reducible refine (period_Year_Count.calls g s0_0 s0_1 s0_2 s0_3 s0_4 s0_5 s0_6 s0_7 s0_8 t310 t311 t312 t313 t314 t315 t316 t317 t318 t319 w0 _ ?side1 ?side2 A5.out).mono ?_); (case side1 => repeat (first | (with_reducible first | exact HI0.out | apply sA_ | apply sN_ | apply sD_) | exact HI0.out)); (case side2 => repeat (first | (with_reducible first | exact HB.out | apply lA_ | apply lN_ | apply lD_ | refine lS_ ?_ (sG_ HI0.out)) | exact HB.out)); rintro e w6 ⟨rfl, hi, hb, hk⟩; have n0_ := a0_ (KeepBut.trans (by repeat (first | (with_reducible first | exact HK.out | apply KeepBut.set_ | apply keep_drewN | apply keep_drew | apply keep_alloc) | exact HK.out)) hk (.inl rfl)); have n1_ := a0_ (hb); have n2_ := a0_ (hi); clear HK; clear HB; clear HI0; have HK := n0_; have HB := n1_; have HI0 := n2_; clear n0_ n1_ n2_; (try clear hb); (try clear hb2); (try clear hk); (try clear hi))); try go_wp2_with (first | (go_at_call 24; (with_reducible refine (period_Year_Count.calls g s0_0 s0_1 s0_2 s0_3 s0_4 s0_5 s0_6 s0_7 s0_8 t310 t311 t312 t313 t314 t315 t316 t317 t318 t319 w0 _ ?side1 ?side2 A5.out).mono ?_); (case side1 => repeat (first | (with_reducible first | exact HI0.out | apply sA_ | apply sN_ | apply sD_) | exact HI0.out)); (case side2 => repeat (first | (with_reducible first | exact HB.out | apply lA_ | apply lN_ | apply lD_ | refine lS_ ?_ (sG_ HI0.out)) | exact HB.out)); rintro e w6 ⟨rfl, hi, hb, hk⟩; have n0_ := a0_ (KeepBut.trans (by repeat (first | (with_reducible first | exact HK.out | apply KeepBut.set_ | apply keep_drewN | apply keep_drew | apply keep_alloc) | exact HK.out)) hk (.inl rfl)); have n1_ := a0_ (hb); have n2_ := a0_ (hi); clear HK; clear HB; clear HI0; have HK := n0_; have HB := n1_; have HI0 := n2_; clear n0_ n1_ n2_; (try clear hb); (try clear hb2); (try clear hk); (try clear hi))))
   go_meet
   case rel => exact ⟨_, (decide (a1 > t310)), (t311), (t312), (t313), (t314), (t315), (t316), (t317), (t318), (t319), (by first | rfl | (simp; done) | (simp [*]; done)), H', ⟨by first | omega | exact Nat.le_refl _⟩, ⟨by repeat (first | (with_reducible first | exact HI0.out | apply sA_ | apply sN_ | apply sD_) | exact HI0.out)⟩, ⟨by repeat (first | (with_reducible first | exact HK.out | apply KeepBut.set_ | apply keep_drewN | apply keep_drew | apply keep_alloc) | exact HK.out)⟩, ⟨by repeat (first | (with_reducible first | exact HB.out | apply lA_ | apply lN_ | apply lD_ | refine lS_ ?_ (sG_ HI0.out)) | exact HB.out)⟩⟩
 case rest =>
  clear HC3
  try clear c4
  try clear c4b0
  obtain ⟨kq, x14_2, x1000_2, x1001_2, x1002_2, x1003_2, x1004_2, x1005_2, x1006_2, x1007_2, x1008_2, rfl, HA, HJ2, HI0, HK, HB⟩ := hcut
  cases kq with
  | zero => exact absurd HA.out (by simp [period_Year_Part.j0])
  | succ kj2 =>
   have H := HA.out
   clear HA
   simp only [period_Year_Part.j0] at H
   by_cases c7 : x14_2 = true
   ·subst c7
    have H1 : (some (0, 0, 1, x1000_2, x1001_2, x1002_2, x1003_2, x1004_2, x1005_2, x1006_2, x1007_2, x1008_2)) = some (r1, r2, r3, r4, r5, r6, r7, r8, r9, r10, r11, r12) := by rw [if_pos rfl] at H; exact H
    clear H
    have H := H1
    clear H1
    simp only [Option.some.injEq, Prod.mk.injEq] at H
    obtain ⟨rfl, rfl, rfl, rfl, rfl, rfl, rfl, rfl, rfl, rfl, rfl, rfl⟩ := H
    go_wp2
    repeat (go_quiet (fail); try go_wp2)
    go_ret3
    exact ⟨by first | rfl | (simp [errW_none, errW_some] <;> rfl) | (simp [*, errW_none, errW_some] <;> rfl), by repeat (first | (with_reducible first | exact HI0.out | apply sA_ | apply sN_ | apply sD_) | exact HI0.out), by repeat (first | (with_reducible first | exact HB.out | apply lA_ | apply lN_ | apply lD_ | refine lS_ ?_ (sG_ HI0.out)) | exact HB.out), by repeat (first | (with_reducible first | exact HK.out | apply KeepBut.set_ | apply keep_drewN | apply keep_drew | apply keep_alloc) | exact HK.out)⟩
   ·replace c7 := Bool.eq_false_iff.mpr c7
    subst c7
    have H1 : ((period_Nominal.f x1000_2).bind fun t320 => ((period_Nominal.f x1000_2).bind fun t321 => (some (mn a1 t320, t321, 0, x1000_2, x1001_2, x1002_2, x1003_2, x1004_2, x1005_2, x1006_2, x1007_2, x1008_2)))) = some (r1, r2, r3, r4, r5, r6, r7, r8, r9, r10, r11, r12) := by rw [if_neg (show ¬ (false = true) by decide)] at H; exact H
    clear H
    have H := H1
    clear H1
    replace H := oB_ H
    obtain ⟨t320, A80, H⟩ := H
    replace H : ((period_Nominal.f x1000_2).bind fun t321 => (some (mn a1 t320, t321, 0, x1000_2, x1001_2, x1002_2, x1003_2, x1004_2, x1005_2, x1006_2, x1007_2, x1008_2))) = some (r1, r2, r3, r4, r5, r6, r7, r8, r9, r10, r11, r12) := H
    have A8 := a0_ A80
    clear A80
    obtain ⟨ji9, hji9⟩ : ∃ j_ : Int, (mn a1 t320) = j_ := ⟨_, rfl⟩
    replace H : ((period_Nominal.f x1000_2).bind fun t321 => (some (ji9, t321, 0, x1000_2, x1001_2, x1002_2, x1003_2, x1004_2, x1005_2, x1006_2, x1007_2, x1008_2))) = some (r1, r2, r3, r4, r5, r6, r7, r8, r9, r10, r11, r12) := by first | (rw [hji9] at H; exact H) | (simp only [hji9] at H ⊢; exact H)
    (try rw [hji9] at A8)
    have hji9_ : (if t320 < a1 then t320 else a1) = ji9 := hji9
    replace H := oB_ H
    obtain ⟨t321, A100, H⟩ := H
    have hsame_ := (Option.some.inj (A8.out.symm.trans A100)).symm
    replace H : (some (ji9, t321, 0, x1000_2, x1001_2, x1002_2, x1003_2, x1004_2, x1005_2, x1006_2, x1007_2, x1008_2)) = some (r1, r2, r3, r4, r5, r6, r7, r8, r9, r10, r11, r12) := H
    have A10 := a0_ A100
    clear A100
    simp only [Option.some.injEq, Prod.mk.injEq] at H
    obtain ⟨rfl, rfl, rfl, rfl, rfl, rfl, rfl, rfl, rfl, rfl, rfl, rfl⟩ := H
    obtain ⟨HGz11, hgz11⟩ := HI0.out
    have hcz11_0 := cellS62_0 HGz11
    have hcz11_1 := cellS62_1 HGz11
    have hcz11_2 := cellS62_2 HGz11
    have hcz11_3 := cellS62_3 HGz11
    have hcz11_4 := cellS62_4 HGz11
    have hcz11_5 := cellS62_5 HGz11
    have hcz11_6 := cellS62_6 HGz11
    have hcz11_7 := cellS62_7 HGz11
    have hcz11_8 := cellS62_8 HGz11
    have hfz11_0 := bF_ HGz11 0
    have hfz11_1 := bF_ HGz11 1
    have hfz11_2 := bF_ HGz11 2
    have hfz11_3 := bF_ HGz11 3
    have hfz11_4 := bF_ HGz11 4
    have hfz11_5 := bF_ HGz11 5
    have hfz11_6 := bF_ HGz11 6
    have hfz11_7 := bF_ HGz11 7
    have hfz11_8 := bF_ HGz11 8
    clear HGz11 hgz11
    go_wp2_with (first | (go_at_call 11; (with_reducible refine (period_Nominal.calls x1000_2 t320 _ A8.out).mono ?_); rintro e w' ⟨rfl, ⟨nd, rfl⟩⟩; (try first | exact ⟨rfl, _, World.drewN_drewN _ _ _⟩ | exact ⟨rfl, _, Eq.trans (World.drewN_drewN _ _ _) (congrArg (World.drewN _) (Nat.add_assoc _ _ _))⟩)) | (go_at_call 11; (with_reducible refine (period_Nominal.calls x1000_2 t321 _ A10.out).mono ?_); rintro e w' ⟨rfl, ⟨nd, rfl⟩⟩; (try first | exact ⟨rfl, _, World.drewN_drewN _ _ _⟩ | exact ⟨rfl, _, Eq.trans (World.drewN_drewN _ _ _) (congrArg (World.drewN _) (Nat.add_assoc _ _ _))⟩)))
    repeat (go_quiet (first | (go_at_call 11; (with_reducible refine (period_Nominal.calls x1000_2 t320 _ A8.out).mono ?_); rintro e w' ⟨rfl, ⟨nd, rfl⟩⟩; (try first | exact ⟨rfl, _, World.drewN_drewN _ _ _⟩ | exact ⟨rfl, _, Eq.trans (World.drewN_drewN _ _ _) (congrArg (World.drewN _) (Nat.add_assoc _ _ _))⟩)) | (go_at_call 11; (with_reducible refine (period_Nominal.calls x1000_2 t321 _ A10.out).mono ?_); rintro e w' ⟨rfl, ⟨nd, rfl⟩⟩; (try first | exact ⟨rfl, _, World.drewN_drewN _ _ _⟩ | exact ⟨rfl, _, Eq.trans (World.drewN_drewN _ _ _) (congrArg (World.drewN _) (Nat.add_assoc _ _ _))⟩))); try go_wp2_with (first | (go_at_call 11; (with_reducible refine (period_Nominal.calls x1000_2 t320 _ A8.out).mono ?_); rintro e w' ⟨rfl, ⟨nd, rfl⟩⟩; (try first | exact ⟨rfl, _, World.drewN_drewN _ _ _⟩ | exact ⟨rfl, _, Eq.trans (World.drewN_drewN _ _ _) (congrArg (World.drewN _) (Nat.add_assoc _ _ _))⟩)) | (go_at_call 11; (with_reducible refine (period_Nominal.calls x1000_2 t321 _ A10.out).mono ?_); rintro e w' ⟨rfl, ⟨nd, rfl⟩⟩; (try first | exact ⟨rfl, _, World.drewN_drewN _ _ _⟩ | exact ⟨rfl, _, Eq.trans (World.drewN_drewN _ _ _) (congrArg (World.drewN _) (Nat.add_assoc _ _ _))⟩))))
    go_ret3
    exact ⟨by first | rfl | (simp [errW_none, errW_some] <;> rfl) | (simp only [← hji9]; first | rfl | (simp [errW_none, errW_some] <;> rfl)) | (simp [*, errW_none, errW_some] <;> rfl), by repeat (first | (with_reducible first | exact HI0.out | apply sA_ | apply sN_ | apply sD_) | exact HI0.out), by repeat (first | (with_reducible first | exact HB.out | apply lA_ | apply lN_ | apply lD_ | refine lS_ ?_ (sG_ HI0.out)) | exact HB.out), by repeat (first | (with_reducible first | exact HK.out | apply KeepBut.set_ | apply keep_drewN | apply keep_drew | apply keep_alloc) | exact HK.out)⟩

end Go.Proofs.Ytojinnnckfimhaa.X
