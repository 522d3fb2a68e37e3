-- laid by the session's own program (xprint.py) out of Lean's print of the program; Lean checks it
import Derived.Test.YtojinnnckfimhaaX0
import Derived.Test.YtojinnnckfimhaaXdateAdd
import Derived.Test.YtojinnnckfimhaaXperiodNewA
namespace Go.Proofs.Ytojinnnckfimhaa.X
open Go.RowKit Go.Proofs.YtojinnnckfimhaaW.PrintWords Go.Proofs.YtojinnnckfimhaaW.PrintLast
set_option linter.unusedVariables false
set_option linter.unusedSimpArgs false

/-! ### period_Year_Next_A: function 19 -/
def period_Year_Next_A.f (k : Nat) (s0_0 : Int) (s0_1 : Int) (s0_2 : Int) (s0_3 : Int) (s0_4 : Int) (s0_5 : Int) (s0_6 : Int) (s0_7 : Int) (s0_8 : Int) : Option (Int × Int × Int × Int × Int × Int × Int × Int × Int × Int) :=
 (date_Add.f k s0_4 s0_5 s0_6 1).bind fun bt => if bt.2.2.2 = 0 then period_New_A.f k s0_0 bt.1 bt.2.1 bt.2.2.1 else none
theorem below_keep_ {w0 w w' : World} {g : Nat} (h0 : Below w0.heap.size w0 w) (h1 : Below w0.heap.size w0 w') (hk : KeepBut w w' g none) (hg : w'.heap[g]? = w.heap[g]?) : Below w.heap.size w w' :=
 ⟨h1.os.trans h0.os.symm, h1.tape.trans h0.tape.symm, h1.output.trans h0.output.symm, hk.1, fun k hk' => by
  by_cases h : k = g
  ·subst h; exact hg
  ·exact hk.2 k hk' h (by simp)⟩
def period_Year_Next_A.T4 : Bool × List (List Nat × List Nat) := (true, [([], []), ([0], [0]), ([1], [1]), ([2], [2]), ([], []), ([3, 4], [3, 4]), ([5], [5]), ([5], [5]), ([6, 5, 0, 1, 2, 3, 4, 5, 6, 7], [6]), ([7, 8, 0, 1, 2, 3, 4, 5, 6, 7, 8], [7])])
def period_Year_Next_A.B4 : List Nat := [0, 1, 3, 7, 0, 31, 63, 63, 255, 511]
theorem period_Year_Next_A.tab4 : rtab .any (opsOf Try.f19 4) = period_Year_Next_A.T4 := by kernel_rfl
theorem period_Year_Next_A.bits4 : waitsOk period_Year_Next_A.T4.2 period_Year_Next_A.B4 = true := by kernel_rfl
set_option maxHeartbeats 8000000 in
set_option maxRecDepth 100000 in
theorem period_Year_Next_A.calls (k : Nat) (g : Nat) (s0_0 : Int) (s0_1 : Int) (s0_2 : Int) (s0_3 : Int) (s0_4 : Int) (s0_5 : Int) (s0_6 : Int) (s0_7 : Int) (s0_8 : Int) (r1 : Int) (r2 : Int) (r3 : Int) (r4 : Int) (r5 : Int) (r6 : Int) (r7 : Int) (r8 : Int) (r9 : Int) (r10 : Int) (w0 w : World) (hI : IsS62 w0 w g s0_0 s0_1 s0_2 s0_3 s0_4 s0_5 s0_6 s0_7 s0_8) (hB : Below w0.heap.size w0 w) (h : period_Year_Next_A.f k s0_0 s0_1 s0_2 s0_3 s0_4 s0_5 s0_6 s0_7 s0_8 = some (r1, r2, r3, r4, r5, r6, r7, r8, r9, r10)) :
  Calls Try.prog 19 #[.pointer (some ⟨g, 0, none⟩)] w fun e w' => ∃ g_ : Nat, e = .returned (.tuple #[.pointer (some ⟨g_, 0, none⟩), .int .i64 r10]) ∧ IsS62 w0 w' g_ r1 r2 r3 r4 r5 r6 r7 r8 r9 ∧ Below w0.heap.size w0 w' ∧ Below w.heap.size w w' ∧ w.heap.size ≤ g_ := by
 have hIw := hI.1
 have hBw := hB
 have hu23 := Try.underlying23
 have HI0 := a0_ hI
 have HK := a0_ (KeepBut.refl w g none)
 have HL := a0_ hB.size
 clear hI
 have HW0 := a0_ hB.size
 have HB := a0_ hB
 clear hB
 have H := h
 clear h
 unfold period_Year_Next_A.f at H
 replace H := oB_ H
 obtain ⟨⟨t194, t195, t196, t197⟩, A20, H⟩ := H
 replace H : (if t197 = 0 then period_New_A.f k s0_0 t194 t195 t196 else none) = some (r1, r2, r3, r4, r5, r6, r7, r8, r9, r10) := H
 have A2 := a0_ A20
 clear A20
 by_cases c3 : t197 = 0
 ·rw [if_pos c3] at H
  have c3b0 : (t197 == 0) = true := beq_iff_eq.mpr c3
  have c3b1 : (t197 != 0) = false := bne_eq_false_iff_eq.mpr c3
  clear c3
  have A6 := a0_ H
  clear H
  obtain ⟨HGz7, hgz7⟩ := HI0.out
  have hcz7_0 := cellS62_0 HGz7
  have hcz7_1 := cellS62_1 HGz7
  have hcz7_2 := cellS62_2 HGz7
  have hcz7_3 := cellS62_3 HGz7
  have hcz7_4 := cellS62_4 HGz7
  have hcz7_5 := cellS62_5 HGz7
  have hcz7_6 := cellS62_6 HGz7
  have hcz7_7 := cellS62_7 HGz7
  have hcz7_8 := cellS62_8 HGz7
  have hfz7_0 := bF_ HGz7 0
  have hfz7_1 := bF_ HGz7 1
  have hfz7_2 := bF_ HGz7 2
  have hfz7_3 := bF_ HGz7 3
  have hfz7_4 := bF_ HGz7 4
  have hfz7_5 := bF_ HGz7 5
  have hfz7_6 := bF_ HGz7 6
  have hfz7_7 := bF_ HGz7 7
  have hfz7_8 := bF_ HGz7 8
  clear HGz7 hgz7
  go_enter Try.func19, Try.ntmps19
  try go_wp2_with (first | ((with_reducible refine gate_callee (f := 13) rfl ?_); refine goesL_ (some 11) rfl rfl Try.func13 (by kernel_rfl) rfl #[.agg #[.int .i64 s0_4, .int .i64 s0_5, .int .i64 s0_6], .int .i64 1] rfl (by (try simp only [List.map_toArray, List.map_cons, List.map_nil]); first | done | rfl) ?_; (with_reducible refine (date_Add.calls k s0_4 s0_5 s0_6 1 t194 t195 t196 t197 _ A2.out).mono ?_); rintro e w8 ⟨rfl, hb⟩; refine ⟨_, rfl, ?_⟩; have n0_ := a0_ (IsS62.below (by repeat (first | (with_reducible first | exact HI0.out | apply sA_ | apply sN_ | apply sD_) | exact HI0.out)) hb); have n1_ := a0_ (KeepBut.trans (by repeat (first | (with_reducible first | exact HK.out | apply KeepBut.set_ | apply keep_drewN | apply keep_drew | apply keep_alloc) | exact HK.out)) (KeepBut.of_below hb g none) (.inl rfl)); have n2_ := a0_ (below_step (by repeat (first | (with_reducible first | exact HB.out | apply lA_ | apply lN_ | apply lD_ | refine lS_ ?_ (sG_ HI0.out)) | exact HB.out)) hb); clear HI0; clear HK; clear HB; have HI0 := n0_; have HK := n1_; have HB := n2_; clear n0_ n1_ n2_; (try clear hb); (try clear hb2); (try clear hk); (try clear hi)) | ((with_reducible refine gate_dst (N := 4) rfl ?_); refine box_event ?hg (N := 4) ?hd (cs := #[.int .i64 0, .int .i64 0, .int .i64 0]) (t := 23) ?hr ?_; (case hd => rfl); (case hg => rfl); (case hr => first | (go_simp; done) | (go_simp; rfl)); intro gb198 hg w9 hbox hb; have n0_ := a0_ (IsS62.below (by repeat (first | (with_reducible first | exact HI0.out | apply sA_ | apply sN_ | apply sD_) | exact HI0.out)) hb); have n1_ := a0_ (KeepBut.trans (by repeat (first | (with_reducible first | exact HK.out | apply KeepBut.set_ | apply keep_drewN | apply keep_drew | apply keep_alloc) | exact HK.out)) (KeepBut.of_below hb g none) (.inl rfl)); have n2_ := a0_ (below_step (by repeat (first | (with_reducible first | exact HB.out | apply lA_ | apply lN_ | apply lD_ | refine lS_ ?_ (sG_ HI0.out)) | exact HB.out)) hb); have n3_ := a0_ (hbox); have n4_ := a0_ ((by rw [hg]; exact (keep_size (w := w) (g := g) (row := none) (by repeat (first | (with_reducible first | exact HK.out | apply KeepBut.set_ | apply keep_drewN | apply keep_drew | apply keep_alloc) | exact HK.out))) : w.heap.size ≤ gb198)); have n5_ := a0_ ((Nat.le_trans HW0.out (by rw [hg]; exact (keep_size (w := w) (g := g) (row := none) (by repeat (first | (with_reducible first | exact HK.out | apply KeepBut.set_ | apply keep_drewN | apply keep_drew | apply keep_alloc) | exact HK.out))) : w.heap.size ≤ gb198) : w0.heap.size ≤ gb198)); have n6_ := a0_ ((by rw [hg]; exact Nat.ne_of_lt (IsS62.lt (show IsS62 w0 _ g s0_0 s0_1 s0_2 s0_3 s0_4 s0_5 s0_6 s0_7 s0_8 from by repeat (first | (with_reducible first | exact HI0.out | apply sA_ | apply sN_ | apply sD_) | exact HI0.out))) : g ≠ gb198)); have n7_ := a0_ ((by rw [hg]; exact Nat.ne_of_gt (IsS62.lt (show IsS62 w0 _ g s0_0 s0_1 s0_2 s0_3 s0_4 s0_5 s0_6 s0_7 s0_8 from by repeat (first | (with_reducible first | exact HI0.out | apply sA_ | apply sN_ | apply sD_) | exact HI0.out))) : gb198 ≠ g)); clear HI0; clear HK; clear HB; have HI0 := n0_; have HK := n1_; have HB := n2_; have BK198 := n3_; have GW198 := n4_; have GE198 := n5_; have NB0_198 := n6_; have NB198_0 := n7_; clear n0_ n1_ n2_ n3_ n4_ n5_ n6_ n7_; clear hb hbox hg; have hnb10 := NB198_0.out; have hnc10 := NB0_198.out; have hcz11_0 : w9.cell? ⟨gb198, 0, none⟩ = some (.int .i64 0) := (bC_ BK198.out 0).trans rfl; have hcz11_1 : w9.cell? ⟨gb198, 1, none⟩ = some (.int .i64 0) := (bC_ BK198.out 1).trans rfl; have hcz11_2 : w9.cell? ⟨gb198, 2, none⟩ = some (.int .i64 0) := (bC_ BK198.out 2).trans rfl; have hfz11_0 := bF_ BK198.out 0; have hfz11_1 := bF_ BK198.out 1; have hfz11_2 := bF_ BK198.out 2))
  have n0_ : Aside0 ((((w9.setCell ⟨gb198, 0, none⟩ (.int .i64 t194)).setCell ⟨gb198, 1, none⟩ (.int .i64 t195)).setCell ⟨gb198, 2, none⟩ (.int .i64 t196)).heap[gb198]? = some (.cells #[.int .i64 t194, .int .i64 t195, .int .i64 t196] 23 (0, 0))) := ⟨by (with_reducible repeat first | apply bN_ | apply bD_ | apply bA_); refine blk_put (cs := #[.int .i64 t194, .int .i64 t195, .int .i64 0]) ?_ 2 _ rfl; (with_reducible repeat first | apply bN_ | apply bD_ | apply bA_); refine blk_put (cs := #[.int .i64 t194, .int .i64 0, .int .i64 0]) ?_ 1 _ rfl; (with_reducible repeat first | apply bN_ | apply bD_ | apply bA_); refine blk_put (cs := #[.int .i64 0, .int .i64 0, .int .i64 0]) ?_ 0 _ rfl; (with_reducible repeat first | apply bN_ | apply bD_ | apply bA_); exact BK198.out⟩
  have n1_ : Aside0 (IsS62 w0 (((w9.setCell ⟨gb198, 0, none⟩ (.int .i64 t194)).setCell ⟨gb198, 1, none⟩ (.int .i64 t195)).setCell ⟨gb198, 2, none⟩ (.int .i64 t196)) g s0_0 s0_1 s0_2 s0_3 s0_4 s0_5 s0_6 s0_7 s0_8) := ⟨by repeat (first | (with_reducible first | exact HI0.out | apply sA_ | apply sN_ | apply sD_ | refine sF_ ?_ NB0_198.out _) | exact HI0.out)⟩
  have n2_ : Aside0 (KeepBut w (((w9.setCell ⟨gb198, 0, none⟩ (.int .i64 t194)).setCell ⟨gb198, 1, none⟩ (.int .i64 t195)).setCell ⟨gb198, 2, none⟩ (.int .i64 t196)) g none) := ⟨by repeat (first | (with_reducible first | exact HK.out | apply KeepBut.set_ | apply keep_drewN | apply keep_drew | apply keep_alloc | refine keep_far ?_ GW198.out _) | exact HK.out)⟩
  have n3_ : Aside0 (Below w0.heap.size w0 (((w9.setCell ⟨gb198, 0, none⟩ (.int .i64 t194)).setCell ⟨gb198, 1, none⟩ (.int .i64 t195)).setCell ⟨gb198, 2, none⟩ (.int .i64 t196))) := ⟨by repeat (first | (with_reducible first | exact HB.out | apply lA_ | apply lN_ | apply lD_ | refine lS_ ?_ (sG_ HI0.out) | refine lS_ ?_ GE198.out) | exact HB.out)⟩
  (try clear BK198)
  (try clear HI0)
  (try clear HK)
  (try clear HB)
  generalize (((w9.setCell ⟨gb198, 0, none⟩ (.int .i64 t194)).setCell ⟨gb198, 1, none⟩ (.int .i64 t195)).setCell ⟨gb198, 2, none⟩ (.int .i64 t196)) = w12 at n0_ n1_ n2_ n3_ ⊢
  have BK198 := n0_
  have HI0 := n1_
  have HK := n2_
  have HB := n3_
  clear n0_ n1_ n2_ n3_
  have n0_ := a0_ (bD_ BK198.out)
  have n1_ := a0_ (sD_ HI0.out)
  have n2_ := a0_ (keep_drew HK.out)
  have n3_ := a0_ (lD_ HB.out)
  clear BK198
  clear HI0
  clear HK
  clear HB
  have BK198 := n0_
  have HI0 := n1_
  have HK := n2_
  have HB := n3_
  clear n0_ n1_ n2_ n3_
  refine start_ (n := 10) (S := fun w' => w'.cell? ⟨g, 0, none⟩ = some (.int .i64 s0_0) ∧ w'.cell? ⟨g, 1, none⟩ = some (.int .i64 s0_1) ∧ w'.cell? ⟨g, 2, none⟩ = some (.int .i64 s0_2) ∧ w'.cell? ⟨g, 3, none⟩ = some (.int .i64 s0_3) ∧ w'.cell? ⟨g, 4, none⟩ = some (.int .i64 s0_4) ∧ w'.cell? ⟨g, 5, none⟩ = some (.int .i64 s0_5) ∧ w'.cell? ⟨g, 6, none⟩ = some (.int .i64 s0_6) ∧ w'.cell? ⟨g, 7, none⟩ = some (.int .i64 s0_7) ∧ w'.cell? ⟨g, 8, none⟩ = some (.int .i64 s0_8) ∧ w'.cell? ⟨gb198, 0, none⟩ = some (.int .i64 t194) ∧ w'.cell? ⟨gb198, 1, none⟩ = some (.int .i64 t195) ∧ w'.cell? ⟨gb198, 2, none⟩ = some (.int .i64 t196)) (ds := []) #[false, false, false, false, false, false, false, false, false, false] (by kernel_rfl) rfl rfl ⟨cellS62_0 HI0.out.1, cellS62_1 HI0.out.1, cellS62_2 HI0.out.1, cellS62_3 HI0.out.1, cellS62_4 HI0.out.1, cellS62_5 HI0.out.1, cellS62_6 HI0.out.1, cellS62_7 HI0.out.1, cellS62_8 HI0.out.1, (bC_ BK198.out 0).trans rfl, (bC_ BK198.out 1).trans rfl, (bC_ BK198.out 2).trans rfl⟩ (fun hHeld => ?_); refine with_tabW period_Year_Next_A.tab4 period_Year_Next_A.bits4 (fun HT_ HW_ => ?_)
  generalize w12.drew = w13 at BK198 HI0 HK HB hHeld ⊢
  refine pure_ (i := 0) (N := some 17) (v := ?_) (a' := ?_) #[true, false, false, false, false, false, false, false, false, false] rfl rfl (any_of HT_.out (by kernel_rfl)) (fun _ _ _ h => h) (Or.inl ⟨by rfl, ?_⟩) ?_ ?_
  rotate_left
  ·intro w'
   go_simp
   with_reducible rfl
  rotate_left
  ·simp only [Act.put, zA_, zB_, zC_, i64_w, i32_w]
   rfl
  refine pure_ (i := 1) (N := some 18) (v := ?_) (a' := ?_) #[true, true, false, false, false, false, false, false, false, false] rfl rfl (any_of HT_.out (by kernel_rfl)) (fun _ _ _ h => h) (Or.inl ⟨by rfl, ?_⟩) ?_ ?_
  rotate_left
  ·intro w'
   go_simp
   with_reducible rfl
  rotate_left
  ·simp only [Act.put, zA_, zB_, zC_, i64_w, i32_w]
   rfl
  refine pure_ (i := 2) (N := some 19) (v := ?_) (a' := ?_) #[true, true, true, false, false, false, false, false, false, false] rfl rfl (any_of HT_.out (by kernel_rfl)) (fun _ _ _ h => h) (Or.inl ⟨by rfl, ?_⟩) ?_ ?_
  rotate_left
  ·intro w'
   go_simp
   with_reducible rfl
  rotate_left
  ·simp only [Act.put, zA_, zB_, zC_, i64_w, i32_w]
   rfl
  refine take_ (i := 3) (N := some 20) (v := ?_) (a' := ?_) #[true, true, true, true, false, false, false, false, false, false] rfl rfl (take_ofW HT_.out HW_.out (by kernel_rfl)) (fun _ _ _ h => h) (Or.inl ⟨by rfl, ?_⟩) hHeld ?_ ?_
  rotate_left
  ·rintro w' ⟨s0, s1, s2, s3, s4, s5, s6, s7, s8, s9, s10, s11⟩
   go_simp
   with_reducible rfl
  rotate_left
  ·simp only [Act.put, zA_, zB_, zC_, i64_w, i32_w]
   rfl
  refine take_ (i := 4) (N := some 21) (v := ?_) (a' := ?_) #[true, true, true, true, true, false, false, false, false, false] rfl rfl (take_ofW HT_.out HW_.out (by kernel_rfl)) (fun _ _ _ h => h) (Or.inl ⟨by rfl, ?_⟩) hHeld ?_ ?_
  rotate_left
  ·rintro w' ⟨s0, s1, s2, s3, s4, s5, s6, s7, s8, s9, s10, s11⟩
   go_simp
   with_reducible rfl
  rotate_left
  ·simp only [Act.put, zA_, zB_, zC_, i64_w, i32_w]
   rfl
  refine one_ (i := 5) (N := some 22) #[true, true, true, true, true, true, false, false, false, false] rfl rfl (one_of HT_.out (by kernel_rfl)) (by decide) (fun K hK => ?_)
  refine goes_ Try.func12 (by kernel_rfl) rfl #[.int .i64 s0_0, .agg #[.int .i64 t194, .int .i64 t195, .int .i64 t196]] (by rfl) rfl rfl (by (try simp only [List.map_toArray, List.map_cons, List.map_nil]); first | done | rfl) ?_
  with_reducible refine (period_New_A.calls k s0_0 t194 t195 t196 r1 r2 r3 r4 r5 r6 r7 r8 r9 r10 w0 _ ?sideB A6.out).mono ?_
  case sideB => exact (by repeat (first | (with_reducible first | exact HB.out | apply lA_ | apply lN_ | apply lD_ | refine lS_ ?_ (sG_ HI0.out) | refine lS_ ?_ GE198.out) | exact HB.out))
  rintro e w14 ⟨gn, rfl, hn, hb0, hb, hge⟩
  refine ⟨_, rfl, ?_⟩
  have hge2 := Nat.le_trans (show KeepBut w _ g none from by repeat (first | (with_reducible first | exact HK.out | apply KeepBut.set_ | apply keep_drewN | apply keep_drew | apply keep_alloc | refine keep_far ?_ GW198.out _) | exact HK.out)).1 hge
  have n0_ := a0_ (IsS62.below (by repeat (first | (with_reducible first | exact HI0.out | apply sA_ | apply sN_ | apply sD_ | refine sF_ ?_ NB0_198.out _) | exact HI0.out)) hb)
  have n1_ := a0_ (bB_ (g := gb198) (o := .cells #[.int .i64 t194, .int .i64 t195, .int .i64 t196] 23 (0, 0)) (by (with_reducible repeat first | apply bN_ | apply bD_ | apply bA_); exact BK198.out) hb)
  have n2_ := a0_ (KeepBut.trans (by repeat (first | (with_reducible first | exact HK.out | apply KeepBut.set_ | apply keep_drewN | apply keep_drew | apply keep_alloc | refine keep_far ?_ GW198.out _) | exact HK.out)) (KeepBut.of_below hb g none) (.inl rfl))
  have n3_ := a0_ (below_step (by repeat (first | (with_reducible first | exact HB.out | apply lA_ | apply lN_ | apply lD_ | refine lS_ ?_ (sG_ HI0.out) | refine lS_ ?_ GE198.out) | exact HB.out)) hb)
  clear HI0
  clear BK198
  clear HK
  clear HB
  have HI0 := n0_
  have BK198 := n1_
  have HK := n2_
  have HB := n3_
  clear n0_ n1_ n2_ n3_
  (try clear hb)
  (try clear hb2)
  (try clear hk)
  (try clear hi)
  refine hK.out _ _ ⟨cellS62_0 HI0.out.1, cellS62_1 HI0.out.1, cellS62_2 HI0.out.1, cellS62_3 HI0.out.1, cellS62_4 HI0.out.1, cellS62_5 HI0.out.1, cellS62_6 HI0.out.1, cellS62_7 HI0.out.1, cellS62_8 HI0.out.1, (bC_ BK198.out 0).trans rfl, (bC_ BK198.out 1).trans rfl, (bC_ BK198.out 2).trans rfl⟩ (fun hHeld => ?_)
  clear hK K
  refine norm_ (a' := ?_) ?_ ?_
  rotate_left
  ·show Act.put _ (some 22) _ = _
   simp only [Act.put, zA_, zB_, zC_, i64_w, i32_w]
   rfl
  refine pure_ (i := 6) (N := some 23) (v := ?_) (a' := ?_) #[true, true, true, true, true, true, true, false, false, false] rfl rfl (any_of HT_.out (by kernel_rfl)) (fun _ _ _ h => h) (Or.inl ⟨by rfl, ?_⟩) ?_ ?_
  rotate_left
  ·intro w'
   go_simp
   with_reducible rfl
  rotate_left
  ·simp only [Act.put, zA_, zB_, zC_, i64_w, i32_w]
   rfl
  refine pure_ (i := 7) (N := some 24) (v := ?_) (a' := ?_) #[true, true, true, true, true, true, true, true, false, false] rfl rfl (any_of HT_.out (by kernel_rfl)) (fun _ _ _ h => h) (Or.inl ⟨by rfl, ?_⟩) ?_ ?_
  rotate_left
  ·intro w'
   go_simp
   with_reducible rfl
  rotate_left
  ·simp only [Act.put, zA_, zB_, zC_, i64_w, i32_w]
   rfl
  refine pure_ (i := 8) (N := some 2) (v := ?_) (a' := ?_) #[true, true, true, true, true, true, true, true, true, false] rfl rfl (any_of HT_.out (by kernel_rfl)) (fun _ _ _ h => h) (Or.inl ⟨by rfl, ?_⟩) ?_ ?_
  rotate_left
  ·intro w'
   go_simp
   with_reducible rfl
  rotate_left
  ·simp only [Act.put, zA_, zB_, zC_, i64_w, i32_w]
   rfl
  refine pure_ (i := 9) (N := some 3) (v := ?_) (a' := ?_) #[true, true, true, true, true, true, true, true, true, true] rfl rfl (any_of HT_.out (by kernel_rfl)) (fun _ _ _ h => h) (Or.inl ⟨by rfl, ?_⟩) ?_ ?_
  rotate_left
  ·intro w'
   go_simp
   with_reducible rfl
  rotate_left
  ·simp only [Act.put, zA_, zB_, zC_, i64_w, i32_w]
   rfl
  refine done_ (done_of HT_.out (by kernel_rfl)) ?_
  try go_wp2
  go_ret2
  exact ⟨gn, by first | rfl | (simp [errW_none, errW_some] <;> rfl) | (simp [*, errW_none, errW_some] <;> rfl), hn, HB.out, below_keep_ hBw HB.out HK.out (HI0.out.1.trans hIw.symm), hge2⟩
 ·rw [if_neg c3] at H
  exact absurd H (by simp)

/-- Is a state made? -/
def period_Year_Next.made (s0_0 : Int) (s0_1 : Int) (s0_2 : Int) (s0_3 : Int) (s0_4 : Int) (s0_5 : Int) (s0_6 : Int) (s0_7 : Int) (s0_8 : Int) : Bool := (period_Year_Next_A.f 300 s0_0 s0_1 s0_2 s0_3 s0_4 s0_5 s0_6 s0_7 s0_8).isSome
/-! ### period_Year_Next_B: function 19 -/
def period_Year_Next_B.f (k : Nat) (s0_0 : Int) (s0_1 : Int) (s0_2 : Int) (s0_3 : Int) (s0_4 : Int) (s0_5 : Int) (s0_6 : Int) (s0_7 : Int) (s0_8 : Int) : Option (Int × Int × Int × Int × Int × Int × Int × Int × Int × Int) := (date_Add.f k s0_4 s0_5 s0_6 1).bind fun bt194 => (if bt194.2.2.2 = 0 then (if period_New.made s0_0 bt194.1 bt194.2.1 bt194.2.2.1 = true then ((period_New_A.f k s0_0 bt194.1 bt194.2.1 bt194.2.2.1).bind fun bt199 => (none)) else ((period_New_B.f k s0_0 bt194.1 bt194.2.1 bt194.2.2.1).bind fun t210 => (some (t210, s0_0, s0_1, s0_2, s0_3, s0_4, s0_5, s0_6, s0_7, s0_8)))) else (some (bt194.2.2.2, s0_0, s0_1, s0_2, s0_3, s0_4, s0_5, s0_6, s0_7, s0_8)))
def period_Year_Next_B.T4 : Bool × List (List Nat × List Nat) := (true, [([], []), ([0], [0]), ([1], [1]), ([2], [2]), ([], []), ([3, 4], [3, 4]), ([5], [5]), ([5], [5]), ([6, 5, 0, 1, 2, 3, 4, 5, 6, 7], [6]), ([7, 8, 0, 1, 2, 3, 4, 5, 6, 7, 8], [7])])
def period_Year_Next_B.B4 : List Nat := [0, 1, 3, 7, 0, 31, 63, 63, 255, 511]
theorem period_Year_Next_B.tab4 : rtab .any (opsOf Try.f19 4) = period_Year_Next_B.T4 := by kernel_rfl
theorem period_Year_Next_B.bits4 : waitsOk period_Year_Next_B.T4.2 period_Year_Next_B.B4 = true := by kernel_rfl
set_option maxHeartbeats 8000000 in
set_option maxRecDepth 100000 in
theorem period_Year_Next_B.calls (k : Nat) (g : Nat) (s0_0 : Int) (s0_1 : Int) (s0_2 : Int) (s0_3 : Int) (s0_4 : Int) (s0_5 : Int) (s0_6 : Int) (s0_7 : Int) (s0_8 : Int) (r1 : Int) (r2 : Int) (r3 : Int) (r4 : Int) (r5 : Int) (r6 : Int) (r7 : Int) (r8 : Int) (r9 : Int) (r10 : Int) (w0 w : World) (hI : IsS62 w0 w g s0_0 s0_1 s0_2 s0_3 s0_4 s0_5 s0_6 s0_7 s0_8) (hB : Below w0.heap.size w0 w) (h : period_Year_Next_B.f k s0_0 s0_1 s0_2 s0_3 s0_4 s0_5 s0_6 s0_7 s0_8 = some (r1, r2, r3, r4, r5, r6, r7, r8, r9, r10)) :
  Calls Try.prog 19 #[.pointer (some ⟨g, 0, none⟩)] w fun e w' => e = .returned (.tuple #[.pointer none, .int .i64 r1]) ∧ IsS62 w0 w' g r2 r3 r4 r5 r6 r7 r8 r9 r10 ∧ Below w0.heap.size w0 w' ∧ KeepBut w w' g none := by
 have hu23 := Try.underlying23
 have HI0 := a0_ hI
 have HK := a0_ (KeepBut.refl w g none)
 have HL := a0_ hB.size
 clear hI
 have HW0 := a0_ hB.size
 have HB := a0_ hB
 clear hB
 have H : ((date_Add.f k s0_4 s0_5 s0_6 1).bind fun bt194 => (if bt194.2.2.2 = 0 then (if period_New.made s0_0 bt194.1 bt194.2.1 bt194.2.2.1 = true then ((period_New_A.f k s0_0 bt194.1 bt194.2.1 bt194.2.2.1).bind fun bt199 => (none)) else ((period_New_B.f k s0_0 bt194.1 bt194.2.1 bt194.2.2.1).bind fun t210 => (some (t210, s0_0, s0_1, s0_2, s0_3, s0_4, s0_5, s0_6, s0_7, s0_8)))) else (some (bt194.2.2.2, s0_0, s0_1, s0_2, s0_3, s0_4, s0_5, s0_6, s0_7, s0_8)))) = some (r1, r2, r3, r4, r5, r6, r7, r8, r9, r10) := h
 clear h
 replace H := oB_ H
 obtain ⟨⟨t194, t195, t196, t197⟩, A20, H⟩ := H
 replace H : (if t197 = 0 then (if period_New.made s0_0 t194 t195 t196 = true then ((period_New_A.f k s0_0 t194 t195 t196).bind fun bt199 => (none)) else ((period_New_B.f k s0_0 t194 t195 t196).bind fun t210 => (some (t210, s0_0, s0_1, s0_2, s0_3, s0_4, s0_5, s0_6, s0_7, s0_8)))) else (some (t197, s0_0, s0_1, s0_2, s0_3, s0_4, s0_5, s0_6, s0_7, s0_8))) = some (r1, r2, r3, r4, r5, r6, r7, r8, r9, r10) := H
 have A2 := a0_ A20
 clear A20
 by_cases c3 : t197 = 0
 ·rw [if_pos c3] at H
  have c3b0 : (t197 == 0) = true := beq_iff_eq.mpr c3
  have c3b1 : (t197 != 0) = false := bne_eq_false_iff_eq.mpr c3
  clear c3
  by_cases c4 : period_New.made s0_0 t194 t195 t196 = true
  ·rw [if_pos c4] at H
   have c4b0 : period_New.made s0_0 t194 t195 t196 = true := c4
   clear c4
   replace H := oB_ H
   obtain ⟨⟨t199, t200, t201, t202, t203, t204, t205, t206, t207, t209⟩, A50, H⟩ := H
   replace H : (none) = some (r1, r2, r3, r4, r5, r6, r7, r8, r9, r10) := H
   have A5 := a0_ A50
   clear A50
   exact absurd H (by simp)
  ·rw [if_neg c4] at H
   have c4b0 : period_New.made s0_0 t194 t195 t196 = false := by simpa using c4
   clear c4
   replace H := oB_ H
   obtain ⟨t210, A60, H⟩ := H
   replace H : (some (t210, s0_0, s0_1, s0_2, s0_3, s0_4, s0_5, s0_6, s0_7, s0_8)) = some (r1, r2, r3, r4, r5, r6, r7, r8, r9, r10) := H
   have A6 := a0_ A60
   clear A60
   simp only [Option.some.injEq, Prod.mk.injEq] at H
   obtain ⟨rfl, rfl, rfl, rfl, rfl, rfl, rfl, rfl, rfl, rfl⟩ := H
   obtain ⟨HGz7, hgz7⟩ := HI0.out
   have hcz7_0 := cellS62_0 HGz7
   have hcz7_1 := cellS62_1 HGz7
   have hcz7_2 := cellS62_2 HGz7
   have hcz7_3 := cellS62_3 HGz7
   have hcz7_4 := cellS62_4 HGz7
   have hcz7_5 := cellS62_5 HGz7
   have hcz7_6 := cellS62_6 HGz7
   have hcz7_7 := cellS62_7 HGz7
   have hcz7_8 := cellS62_8 HGz7
   have hfz7_0 := bF_ HGz7 0
   have hfz7_1 := bF_ HGz7 1
   have hfz7_2 := bF_ HGz7 2
   have hfz7_3 := bF_ HGz7 3
   have hfz7_4 := bF_ HGz7 4
   have hfz7_5 := bF_ HGz7 5
   have hfz7_6 := bF_ HGz7 6
   have hfz7_7 := bF_ HGz7 7
   have hfz7_8 := bF_ HGz7 8
   clear HGz7 hgz7
   go_enter Try.func19, Try.ntmps19
   try go_wp2_with (first | ((with_reducible refine gate_callee (f := 13) rfl ?_); refine goesL_ (some 11) rfl rfl Try.func13 (by kernel_rfl) rfl #[.agg #[.int .i64 s0_4, .int .i64 s0_5, .int .i64 s0_6], .int .i64 1] rfl (by (try simp only [List.map_toArray, List.map_cons, List.map_nil]); first | done | rfl) ?_; (with_reducible refine (date_Add.calls k s0_4 s0_5 s0_6 1 t194 t195 t196 t197 _ A2.out).mono ?_); rintro e w8 ⟨rfl, hb⟩; refine ⟨_, rfl, ?_⟩; have n0_ := a0_ (IsS62.below (by repeat (first | (with_reducible first | exact HI0.out | apply sA_ | apply sN_ | apply sD_) | exact HI0.out)) hb); have n1_ := a0_ (KeepBut.trans (by repeat (first | (with_reducible first | exact HK.out | apply KeepBut.set_ | apply keep_drewN | apply keep_drew | apply keep_alloc) | exact HK.out)) (KeepBut.of_below hb g none) (.inl rfl)); have n2_ := a0_ (below_step (by repeat (first | (with_reducible first | exact HB.out | apply lA_ | apply lN_ | apply lD_ | refine lS_ ?_ (sG_ HI0.out)) | exact HB.out)) hb); clear HI0; clear HK; clear HB; have HI0 := n0_; have HK := n1_; have HB := n2_; clear n0_ n1_ n2_; (try clear hb); (try clear hb2); (try clear hk); (try clear hi)) | ((with_reducible refine gate_dst (N := 4) rfl ?_); refine box_event ?hg (N := 4) ?hd (cs := #[.int .i64 0, .int .i64 0, .int .i64 0]) (t := 23) ?hr ?_; (case hd => rfl); (case hg => rfl); (case hr => first | (go_simp; done) | (go_simp; rfl)); intro gb198 hg w9 hbox hb; have n0_ := a0_ (IsS62.below (by repeat (first | (with_reducible first | exact HI0.out | apply sA_ | apply sN_ | apply sD_) | exact HI0.out)) hb); have n1_ := a0_ (KeepBut.trans (by repeat (first | (with_reducible first | exact HK.out | apply KeepBut.set_ | apply keep_drewN | apply keep_drew | apply keep_alloc) | exact HK.out)) (KeepBut.of_below hb g none) (.inl rfl)); have n2_ := a0_ (below_step (by repeat (first | (with_reducible first | exact HB.out | apply lA_ | apply lN_ | apply lD_ | refine lS_ ?_ (sG_ HI0.out)) | exact HB.out)) hb); have n3_ := a0_ (hbox); have n4_ := a0_ ((by rw [hg]; exact (keep_size (w := w) (g := g) (row := none) (by repeat (first | (with_reducible first | exact HK.out | apply KeepBut.set_ | apply keep_drewN | apply keep_drew | apply keep_alloc) | exact HK.out))) : w.heap.size ≤ gb198)); have n5_ := a0_ ((Nat.le_trans HW0.out (by rw [hg]; exact (keep_size (w := w) (g := g) (row := none) (by repeat (first | (with_reducible first | exact HK.out | apply KeepBut.set_ | apply keep_drewN | apply keep_drew | apply keep_alloc) | exact HK.out))) : w.heap.size ≤ gb198) : w0.heap.size ≤ gb198)); have n6_ := a0_ ((by rw [hg]; exact Nat.ne_of_lt (IsS62.lt (show IsS62 w0 _ g s0_0 s0_1 s0_2 s0_3 s0_4 s0_5 s0_6 s0_7 s0_8 from by repeat (first | (with_reducible first | exact HI0.out | apply sA_ | apply sN_ | apply sD_) | exact HI0.out))) : g ≠ gb198)); have n7_ := a0_ ((by rw [hg]; exact Nat.ne_of_gt (IsS62.lt (show IsS62 w0 _ g s0_0 s0_1 s0_2 s0_3 s0_4 s0_5 s0_6 s0_7 s0_8 from by repeat (first | (with_reducible first | exact HI0.out | apply sA_ | apply sN_ | apply sD_) | exact HI0.out))) : gb198 ≠ g)); clear HI0; clear HK; clear HB; have HI0 := n0_; have HK := n1_; have HB := n2_; have BK198 := n3_; have GW198 := n4_; have GE198 := n5_; have NB0_198 := n6_; have NB198_0 := n7_; clear n0_ n1_ n2_ n3_ n4_ n5_ n6_ n7_; clear hb hbox hg; have hnb10 := NB198_0.out; have hnc10 := NB0_198.out; have hcz11_0 : w9.cell? ⟨gb198, 0, none⟩ = some (.int .i64 0) := (bC_ BK198.out 0).trans rfl; have hcz11_1 : w9.cell? ⟨gb198, 1, none⟩ = some (.int .i64 0) := (bC_ BK198.out 1).trans rfl; have hcz11_2 : w9.cell? ⟨gb198, 2, none⟩ = some (.int .i64 0) := (bC_ BK198.out 2).trans rfl; have hfz11_0 := bF_ BK198.out 0; have hfz11_1 := bF_ BK198.out 1; have hfz11_2 := bF_ BK198.out 2))
   have n0_ : Aside0 ((((w9.setCell ⟨gb198, 0, none⟩ (.int .i64 t194)).setCell ⟨gb198, 1, none⟩ (.int .i64 t195)).setCell ⟨gb198, 2, none⟩ (.int .i64 t196)).heap[gb198]? = some (.cells #[.int .i64 t194, .int .i64 t195, .int .i64 t196] 23 (0, 0))) := ⟨by (with_reducible repeat first | apply bN_ | apply bD_ | apply bA_); refine blk_put (cs := #[.int .i64 t194, .int .i64 t195, .int .i64 0]) ?_ 2 _ rfl; (with_reducible repeat first | apply bN_ | apply bD_ | apply bA_); refine blk_put (cs := #[.int .i64 t194, .int .i64 0, .int .i64 0]) ?_ 1 _ rfl; (with_reducible repeat first | apply bN_ | apply bD_ | apply bA_); refine blk_put (cs := #[.int .i64 0, .int .i64 0, .int .i64 0]) ?_ 0 _ rfl; (with_reducible repeat first | apply bN_ | apply bD_ | apply bA_); exact BK198.out⟩
   have n1_ : Aside0 (IsS62 w0 (((w9.setCell ⟨gb198, 0, none⟩ (.int .i64 t194)).setCell ⟨gb198, 1, none⟩ (.int .i64 t195)).setCell ⟨gb198, 2, none⟩ (.int .i64 t196)) g s0_0 s0_1 s0_2 s0_3 s0_4 s0_5 s0_6 s0_7 s0_8) := ⟨by repeat (first | (with_reducible first | exact HI0.out | apply sA_ | apply sN_ | apply sD_ | refine sF_ ?_ NB0_198.out _) | exact HI0.out)⟩
   have n2_ : Aside0 (KeepBut w (((w9.setCell ⟨gb198, 0, none⟩ (.int .i64 t194)).setCell ⟨gb198, 1, none⟩ (.int .i64 t195)).setCell ⟨gb198, 2, none⟩ (.int .i64 t196)) g none) := ⟨by repeat (first | (with_reducible first | exact HK.out | apply KeepBut.set_ | apply keep_drewN | apply keep_drew | apply keep_alloc | refine keep_far ?_ GW198.out _) | exact HK.out)⟩
   have n3_ : Aside0 (Below w0.heap.size w0 (((w9.setCell ⟨gb198, 0, none⟩ (.int .i64 t194)).setCell ⟨gb198, 1, none⟩ (.int .i64 t195)).setCell ⟨gb198, 2, none⟩ (.int .i64 t196))) := ⟨by repeat (first | (with_reducible first | exact HB.out | apply lA_ | apply lN_ | apply lD_ | refine lS_ ?_ (sG_ HI0.out) | refine lS_ ?_ GE198.out) | exact HB.out)⟩
   (try clear BK198)
   (try clear HI0)
   (try clear HK)
   (try clear HB)
   generalize (((w9.setCell ⟨gb198, 0, none⟩ (.int .i64 t194)).setCell ⟨gb198, 1, none⟩ (.int .i64 t195)).setCell ⟨gb198, 2, none⟩ (.int .i64 t196)) = w12 at n0_ n1_ n2_ n3_ ⊢
   have BK198 := n0_
   have HI0 := n1_
   have HK := n2_
   have HB := n3_
   clear n0_ n1_ n2_ n3_
   have n0_ := a0_ (bD_ BK198.out)
   have n1_ := a0_ (sD_ HI0.out)
   have n2_ := a0_ (keep_drew HK.out)
   have n3_ := a0_ (lD_ HB.out)
   clear BK198
   clear HI0
   clear HK
   clear HB
   have BK198 := n0_
   have HI0 := n1_
   have HK := n2_
   have HB := n3_
   clear n0_ n1_ n2_ n3_
   refine start_ (n := 10) (S := fun w' => w'.cell? ⟨g, 0, none⟩ = some (.int .i64 s0_0) ∧ w'.cell? ⟨g, 1, none⟩ = some (.int .i64 s0_1) ∧ w'.cell? ⟨g, 2, none⟩ = some (.int .i64 s0_2) ∧ w'.cell? ⟨g, 3, none⟩ = some (.int .i64 s0_3) ∧ w'.cell? ⟨g, 4, none⟩ = some (.int .i64 s0_4) ∧ w'.cell? ⟨g, 5, none⟩ = some (.int .i64 s0_5) ∧ w'.cell? ⟨g, 6, none⟩ = some (.int .i64 s0_6) ∧ w'.cell? ⟨g, 7, none⟩ = some (.int .i64 s0_7) ∧ w'.cell? ⟨g, 8, none⟩ = some (.int .i64 s0_8) ∧ w'.cell? ⟨gb198, 0, none⟩ = some (.int .i64 t194) ∧ w'.cell? ⟨gb198, 1, none⟩ = some (.int .i64 t195) ∧ w'.cell? ⟨gb198, 2, none⟩ = some (.int .i64 t196)) (ds := []) #[false, false, false, false, false, false, false, false, false, false] (by kernel_rfl) rfl rfl ⟨cellS62_0 HI0.out.1, cellS62_1 HI0.out.1, cellS62_2 HI0.out.1, cellS62_3 HI0.out.1, cellS62_4 HI0.out.1, cellS62_5 HI0.out.1, cellS62_6 HI0.out.1, cellS62_7 HI0.out.1, cellS62_8 HI0.out.1, (bC_ BK198.out 0).trans rfl, (bC_ BK198.out 1).trans rfl, (bC_ BK198.out 2).trans rfl⟩ (fun hHeld => ?_); refine with_tabW period_Year_Next_B.tab4 period_Year_Next_B.bits4 (fun HT_ HW_ => ?_)
   generalize w12.drew = w13 at BK198 HI0 HK HB hHeld ⊢
   refine pure_ (i := 0) (N := some 17) (v := ?_) (a' := ?_) #[true, false, false, false, false, false, false, false, false, false] rfl rfl (any_of HT_.out (by kernel_rfl)) (fun _ _ _ h => h) (Or.inl ⟨by rfl, ?_⟩) ?_ ?_
   rotate_left
   ·intro w'
    go_simp
    with_reducible rfl
   rotate_left
   ·simp only [Act.put, zA_, zB_, zC_, i64_w, i32_w]
    rfl
   refine pure_ (i := 1) (N := some 18) (v := ?_) (a' := ?_) #[true, true, false, false, false, false, false, false, false, false] rfl rfl (any_of HT_.out (by kernel_rfl)) (fun _ _ _ h => h) (Or.inl ⟨by rfl, ?_⟩) ?_ ?_
   rotate_left
   ·intro w'
    go_simp
    with_reducible rfl
   rotate_left
   ·simp only [Act.put, zA_, zB_, zC_, i64_w, i32_w]
    rfl
   refine pure_ (i := 2) (N := some 19) (v := ?_) (a' := ?_) #[true, true, true, false, false, false, false, false, false, false] rfl rfl (any_of HT_.out (by kernel_rfl)) (fun _ _ _ h => h) (Or.inl ⟨by rfl, ?_⟩) ?_ ?_
   rotate_left
   ·intro w'
    go_simp
    with_reducible rfl
   rotate_left
   ·simp only [Act.put, zA_, zB_, zC_, i64_w, i32_w]
    rfl
   refine take_ (i := 3) (N := some 20) (v := ?_) (a' := ?_) #[true, true, true, true, false, false, false, false, false, false] rfl rfl (take_ofW HT_.out HW_.out (by kernel_rfl)) (fun _ _ _ h => h) (Or.inl ⟨by rfl, ?_⟩) hHeld ?_ ?_
   rotate_left
   ·rintro w' ⟨s0, s1, s2, s3, s4, s5, s6, s7, s8, s9, s10, s11⟩
    go_simp
    with_reducible rfl
   rotate_left
   ·simp only [Act.put, zA_, zB_, zC_, i64_w, i32_w]
    rfl
   refine take_ (i := 4) (N := some 21) (v := ?_) (a' := ?_) #[true, true, true, true, true, false, false, false, false, false] rfl rfl (take_ofW HT_.out HW_.out (by kernel_rfl)) (fun _ _ _ h => h) (Or.inl ⟨by rfl, ?_⟩) hHeld ?_ ?_
   rotate_left
   ·rintro w' ⟨s0, s1, s2, s3, s4, s5, s6, s7, s8, s9, s10, s11⟩
    go_simp
    with_reducible rfl
   rotate_left
   ·simp only [Act.put, zA_, zB_, zC_, i64_w, i32_w]
    rfl
   refine one_ (i := 5) (N := some 22) #[true, true, true, true, true, true, false, false, false, false] rfl rfl (one_of HT_.out (by kernel_rfl)) (by decide) (fun K hK => ?_)
   refine goes_ Try.func12 (by kernel_rfl) rfl #[.int .i64 s0_0, .agg #[.int .i64 t194, .int .i64 t195, .int .i64 t196]] (by rfl) rfl rfl (by (try simp only [List.map_toArray, List.map_cons, List.map_nil]); first | done | rfl) ?_
   with_reducible refine (period_New_B.calls k s0_0 t194 t195 t196 t210 _ A6.out).mono ?_
   rintro e w14 ⟨rfl, hb⟩
   refine ⟨_, rfl, ?_⟩
   have n0_ := a0_ (IsS62.below (by repeat (first | (with_reducible first | exact HI0.out | apply sA_ | apply sN_ | apply sD_ | refine sF_ ?_ NB0_198.out _) | exact HI0.out)) hb)
   have n1_ := a0_ (bB_ (g := gb198) (o := .cells #[.int .i64 t194, .int .i64 t195, .int .i64 t196] 23 (0, 0)) (by (with_reducible repeat first | apply bN_ | apply bD_ | apply bA_); exact BK198.out) hb)
   have n2_ := a0_ (KeepBut.trans (by repeat (first | (with_reducible first | exact HK.out | apply KeepBut.set_ | apply keep_drewN | apply keep_drew | apply keep_alloc | refine keep_far ?_ GW198.out _) | exact HK.out)) (KeepBut.of_below hb g none) (.inl rfl))
   have n3_ := a0_ (below_step (by repeat (first | (with_reducible first | exact HB.out | apply lA_ | apply lN_ | apply lD_ | refine lS_ ?_ (sG_ HI0.out) | refine lS_ ?_ GE198.out) | exact HB.out)) hb)
   clear HI0
   clear BK198
   clear HK
   clear HB
   have HI0 := n0_
   have BK198 := n1_
   have HK := n2_
   have HB := n3_
   clear n0_ n1_ n2_ n3_
   (try clear hb)
   (try clear hb2)
   (try clear hk)
   (try clear hi)
   refine hK.out _ _ ⟨cellS62_0 HI0.out.1, cellS62_1 HI0.out.1, cellS62_2 HI0.out.1, cellS62_3 HI0.out.1, cellS62_4 HI0.out.1, cellS62_5 HI0.out.1, cellS62_6 HI0.out.1, cellS62_7 HI0.out.1, cellS62_8 HI0.out.1, (bC_ BK198.out 0).trans rfl, (bC_ BK198.out 1).trans rfl, (bC_ BK198.out 2).trans rfl⟩ (fun hHeld => ?_)
   clear hK K
   refine norm_ (a' := ?_) ?_ ?_
   rotate_left
   ·show Act.put _ (some 22) _ = _
    simp only [Act.put, zA_, zB_, zC_, i64_w, i32_w]
    rfl
   refine pure_ (i := 6) (N := some 23) (v := ?_) (a' := ?_) #[true, true, true, true, true, true, true, false, false, false] rfl rfl (any_of HT_.out (by kernel_rfl)) (fun _ _ _ h => h) (Or.inl ⟨by rfl, ?_⟩) ?_ ?_
   rotate_left
   ·intro w'
    go_simp
    with_reducible rfl
   rotate_left
   ·simp only [Act.put, zA_, zB_, zC_, i64_w, i32_w]
    rfl
   refine pure_ (i := 7) (N := some 24) (v := ?_) (a' := ?_) #[true, true, true, true, true, true, true, true, false, false] rfl rfl (any_of HT_.out (by kernel_rfl)) (fun _ _ _ h => h) (Or.inl ⟨by rfl, ?_⟩) ?_ ?_
   rotate_left
   ·intro w'
    go_simp
    with_reducible rfl
   rotate_left
   ·simp only [Act.put, zA_, zB_, zC_, i64_w, i32_w]
    rfl
   refine pure_ (i := 8) (N := some 2) (v := ?_) (a' := ?_) #[true, true, true, true, true, true, true, true, true, false] rfl rfl (any_of HT_.out (by kernel_rfl)) (fun _ _ _ h => h) (Or.inl ⟨by rfl, ?_⟩) ?_ ?_
   rotate_left
   ·intro w'
    go_simp
    with_reducible rfl
   rotate_left
   ·simp only [Act.put, zA_, zB_, zC_, i64_w, i32_w]
    rfl
   refine pure_ (i := 9) (N := some 3) (v := ?_) (a' := ?_) #[true, true, true, true, true, true, true, true, true, true] rfl rfl (any_of HT_.out (by kernel_rfl)) (fun _ _ _ h => h) (Or.inl ⟨by rfl, ?_⟩) ?_ ?_
   rotate_left
   ·intro w'
    go_simp
    with_reducible rfl
   rotate_left
   ·simp only [Act.put, zA_, zB_, zC_, i64_w, i32_w]
    rfl
   refine done_ (done_of HT_.out (by kernel_rfl)) ?_
   try go_wp2
   go_ret2
   exact ⟨by first | rfl | (simp [errW_none, errW_some] <;> rfl) | (simp [*, errW_none, errW_some] <;> rfl), by repeat (first | (with_reducible first | exact HI0.out | apply sA_ | apply sN_ | apply sD_ | refine sF_ ?_ NB0_198.out _) | exact HI0.out), by repeat (first | (with_reducible first | exact HB.out | apply lA_ | apply lN_ | apply lD_ | refine lS_ ?_ (sG_ HI0.out) | refine lS_ ?_ GE198.out) | exact HB.out), by repeat (first | (with_reducible first | exact HK.out | apply KeepBut.set_ | apply keep_drewN | apply keep_drew | apply keep_alloc | refine keep_far ?_ GW198.out _) | exact HK.out)⟩
 ·rw [if_neg c3] at H
  have c3b0 : (t197 == 0) = false := beq_eq_false_iff_ne.mpr c3
  have c3b1 : (t197 != 0) = true := bne_iff_ne.mpr c3
  simp only [Option.some.injEq, Prod.mk.injEq] at H
  obtain ⟨rfl, rfl, rfl, rfl, rfl, rfl, rfl, rfl, rfl, rfl⟩ := H
  obtain ⟨HGz15, hgz15⟩ := HI0.out
  have hcz15_0 := cellS62_0 HGz15
  have hcz15_1 := cellS62_1 HGz15
  have hcz15_2 := cellS62_2 HGz15
  have hcz15_3 := cellS62_3 HGz15
  have hcz15_4 := cellS62_4 HGz15
  have hcz15_5 := cellS62_5 HGz15
  have hcz15_6 := cellS62_6 HGz15
  have hcz15_7 := cellS62_7 HGz15
  have hcz15_8 := cellS62_8 HGz15
  have hfz15_0 := bF_ HGz15 0
  have hfz15_1 := bF_ HGz15 1
  have hfz15_2 := bF_ HGz15 2
  have hfz15_3 := bF_ HGz15 3
  have hfz15_4 := bF_ HGz15 4
  have hfz15_5 := bF_ HGz15 5
  have hfz15_6 := bF_ HGz15 6
  have hfz15_7 := bF_ HGz15 7
  have hfz15_8 := bF_ HGz15 8
  clear HGz15 hgz15
  go_enter Try.func19, Try.ntmps19
  go_wp2_with (first | ((with_reducible refine gate_callee (f := 13) rfl ?_); refine goesL_ (some 11) rfl rfl Try.func13 (by kernel_rfl) rfl #[.agg #[.int .i64 s0_4, .int .i64 s0_5, .int .i64 s0_6], .int .i64 1] rfl (by (try simp only [List.map_toArray, List.map_cons, List.map_nil]); first | done | rfl) ?_; (with_reducible refine (date_Add.calls k s0_4 s0_5 s0_6 1 t194 t195 t196 t197 _ A2.out).mono ?_); rintro e w16 ⟨rfl, hb⟩; refine ⟨_, rfl, ?_⟩; have n0_ := a0_ (IsS62.below (by repeat (first | (with_reducible first | exact HI0.out | apply sA_ | apply sN_ | apply sD_) | exact HI0.out)) hb); have n1_ := a0_ (KeepBut.trans (by repeat (first | (with_reducible first | exact HK.out | apply KeepBut.set_ | apply keep_drewN | apply keep_drew | apply keep_alloc) | exact HK.out)) (KeepBut.of_below hb g none) (.inl rfl)); have n2_ := a0_ (below_step (by repeat (first | (with_reducible first | exact HB.out | apply lA_ | apply lN_ | apply lD_ | refine lS_ ?_ (sG_ HI0.out)) | exact HB.out)) hb); clear HI0; clear HK; clear HB; have HI0 := n0_; have HK := n1_; have HB := n2_; clear n0_ n1_ n2_; (try clear hb); (try clear hb2); (try clear hk); (try clear hi)) | ((with_reducible refine gate_dst (N := 4) rfl ?_); refine box_event ?hg (N := 4) ?hd (cs := #[.int .i64 0, .int .i64 0, .int .i64 0]) (t := 23) ?hr ?_; (case hd => rfl); (case hg => rfl); (case hr => first | (go_simp; done) | (go_simp; rfl)); intro gb198 hg w17 hbox hb; have n0_ := a0_ (IsS62.below (by repeat (first | (with_reducible first | exact HI0.out | apply sA_ | apply sN_ | apply sD_) | exact HI0.out)) hb); have n1_ := a0_ (KeepBut.trans (by repeat (first | (with_reducible first | exact HK.out | apply KeepBut.set_ | apply keep_drewN | apply keep_drew | apply keep_alloc) | exact HK.out)) (KeepBut.of_below hb g none) (.inl rfl)); have n2_ := a0_ (below_step (by repeat (first | (with_reducible first | exact HB.out | apply lA_ | apply lN_ | apply lD_ | refine lS_ ?_ (sG_ HI0.out)) | exact HB.out)) hb); have n3_ := a0_ (hbox); have n4_ := a0_ ((by rw [hg]; exact (keep_size (w := w) (g := g) (row := none) (by repeat (first | (with_reducible first | exact HK.out | apply KeepBut.set_ | apply keep_drewN | apply keep_drew | apply keep_alloc) | exact HK.out))) : w.heap.size ≤ gb198)); have n5_ := a0_ ((Nat.le_trans HW0.out (by rw [hg]; exact (keep_size (w := w) (g := g) (row := none) (by repeat (first | (with_reducible first | exact HK.out | apply KeepBut.set_ | apply keep_drewN | apply keep_drew | apply keep_alloc) | exact HK.out))) : w.heap.size ≤ gb198) : w0.heap.size ≤ gb198)); have n6_ := a0_ ((by rw [hg]; exact Nat.ne_of_lt (IsS62.lt (show IsS62 w0 _ g s0_0 s0_1 s0_2 s0_3 s0_4 s0_5 s0_6 s0_7 s0_8 from by repeat (first | (with_reducible first | exact HI0.out | apply sA_ | apply sN_ | apply sD_) | exact HI0.out))) : g ≠ gb198)); have n7_ := a0_ ((by rw [hg]; exact Nat.ne_of_gt (IsS62.lt (show IsS62 w0 _ g s0_0 s0_1 s0_2 s0_3 s0_4 s0_5 s0_6 s0_7 s0_8 from by repeat (first | (with_reducible first | exact HI0.out | apply sA_ | apply sN_ | apply sD_) | exact HI0.out))) : gb198 ≠ g)); clear HI0; clear HK; clear HB; have HI0 := n0_; have HK := n1_; have HB := n2_; have BK198 := n3_; have GW198 := n4_; have GE198 := n5_; have NB0_198 := n6_; have NB198_0 := n7_; clear n0_ n1_ n2_ n3_ n4_ n5_ n6_ n7_; clear hb hbox hg; have hnb18 := NB198_0.out; have hnc18 := NB0_198.out; have hcz19_0 : w17.cell? ⟨gb198, 0, none⟩ = some (.int .i64 0) := (bC_ BK198.out 0).trans rfl; have hcz19_1 : w17.cell? ⟨gb198, 1, none⟩ = some (.int .i64 0) := (bC_ BK198.out 1).trans rfl; have hcz19_2 : w17.cell? ⟨gb198, 2, none⟩ = some (.int .i64 0) := (bC_ BK198.out 2).trans rfl; have hfz19_0 := bF_ BK198.out 0; have hfz19_1 := bF_ BK198.out 1; have hfz19_2 := bF_ BK198.out 2))
  go_ret2
  exact ⟨by first | rfl | (simp [errW_none, errW_some] <;> rfl) | (simp [*, errW_none, errW_some] <;> rfl), by repeat (first | (with_reducible first | exact HI0.out | apply sA_ | apply sN_ | apply sD_ | refine sF_ ?_ NB0_198.out _) | exact HI0.out), by repeat (first | (with_reducible first | exact HB.out | apply lA_ | apply lN_ | apply lD_ | refine lS_ ?_ (sG_ HI0.out) | refine lS_ ?_ GE198.out) | exact HB.out), by repeat (first | (with_reducible first | exact HK.out | apply KeepBut.set_ | apply keep_drewN | apply keep_drew | apply keep_alloc | refine keep_far ?_ GW198.out _) | exact HK.out)⟩

end Go.Proofs.Ytojinnnckfimhaa.X
