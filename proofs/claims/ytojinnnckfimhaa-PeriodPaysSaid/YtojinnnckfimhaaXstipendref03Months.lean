-- laid by the session's own program (xprint.py) out of Lean's print of the program; Lean checks it
import Derived.Test.YtojinnnckfimhaaX0
import Derived.Test.YtojinnnckfimhaaXstipendref03Long
namespace Go.Proofs.Ytojinnnckfimhaa.X
open Go.RowKit Go.Proofs.YtojinnnckfimhaaW.PrintWords Go.Proofs.YtojinnnckfimhaaW.PrintLast
set_option linter.unusedVariables false
set_option linter.unusedSimpArgs false

/-! ### stipendref03_Months: function 21 -/
mutual
def stipendref03_Months.l0 : Nat → Int → Int → Int → Int → Int → Int → Option (Int × Int × Int × Bool)
 | 0, _, _, _, _, _, _ => none
 | k + 1, x1, x6, x7, x503000, x503001, x503002 => if x1 > 0 then (stipendref03_Months.j1 k x1 x6 x7 (decide (x6 ≤ 2199)) x503000 x503001 x503002) else (stipendref03_Months.j1 k x1 x6 x7 false x503000 x503001 x503002)
def stipendref03_Months.j1 : Nat → Int → Int → Int → Bool → Int → Int → Int → Option (Int × Int × Int × Bool)
 | 0, _, _, _, _, _, _, _ => none
 | k + 1, x1, x6, x7, x23, x503000, x503001, x503002 => if x23 = true then (if (wrap64 (x7 + 1)) > 12 then (stipendref03_Months.l0 k (wrap64 (x1 - 1)) (wrap64 (x6 + 1)) 1 x503000 x503001 x503002) else (stipendref03_Months.l0 k (wrap64 (x1 - 1)) x6 (wrap64 (x7 + 1)) x503000 x503001 x503002)) else (stipendref03_Months.l1 k x1 x6 x7 x503000 x503001 x503002)
def stipendref03_Months.l1 : Nat → Int → Int → Int → Int → Int → Int → Option (Int × Int × Int × Bool)
 | 0, _, _, _, _, _, _ => none
 | k + 1, x1, x6, x7, x503000, x503001, x503002 => if x1 < 0 then (stipendref03_Months.j3 k x1 x6 x7 (decide (x6 ≥ 1900)) x503000 x503001 x503002) else (stipendref03_Months.j3 k x1 x6 x7 false x503000 x503001 x503002)
def stipendref03_Months.j3 : Nat → Int → Int → Int → Bool → Int → Int → Int → Option (Int × Int × Int × Bool)
 | 0, _, _, _, _, _, _, _ => none
 | k + 1, x1, x6, x7, x37, x503000, x503001, x503002 => if x37 = true then (if (wrap64 (x7 - 1)) < 1 then (stipendref03_Months.l1 k (wrap64 (x1 + 1)) (wrap64 (x6 - 1)) 12 x503000 x503001 x503002) else (stipendref03_Months.l1 k (wrap64 (x1 + 1)) x6 (wrap64 (x7 - 1)) x503000 x503001 x503002)) else (stipendref03_Months.l2 k x6 x7 x503002)
def stipendref03_Months.l2 : Nat → Int → Int → Int → Option (Int × Int × Int × Bool)
 | 0, _, _, _ => none
 | k + 1, x6, x7, x8 => if x8 > 28 then ((stipendref03_Month.f x6 x7).bind fun t505 => (if x8 > t505 then (stipendref03_Months.l2 k x6 x7 (wrap64 (x8 - 1))) else ((stipendref03_Right.f x6 x7 x8).bind fun t507 => (some (x6, x7, x8, t507))))) else ((stipendref03_Right.f x6 x7 x8).bind fun t509 => (some (x6, x7, x8, t509)))
end
def stipendref03_Months.f (k : Nat) (a0_0 : Int) (a0_1 : Int) (a0_2 : Int) (a1 : Int) : Option (Int × Int × Int × Bool) := (stipendref03_Right.f a0_0 a0_1 a0_2).bind fun t504 => (if t504 = true then (stipendref03_Months.l0 k a1 a0_0 a0_1 a0_0 a0_1 a0_2) else (some (0, 0, 0, false)))
set_option maxHeartbeats 8000000 in
set_option maxRecDepth 100000 in
theorem stipendref03_Months.calls (k : Nat) (a0_0 : Int) (a0_1 : Int) (a0_2 : Int) (a1 : Int) (r1 : Int) (r2 : Int) (r3 : Int) (r4 : Bool) (w : World) (h : stipendref03_Months.f k a0_0 a0_1 a0_2 a1 = some (r1, r2, r3, r4)) :
  Calls Try.prog 21 #[.agg #[.int .i64 a0_0, .int .i64 a0_1, .int .i64 a0_2], .int .i64 a1] w fun e w' => e = .returned (.tuple #[.agg #[.int .i64 r1, .int .i64 r2, .int .i64 r3], .bool r4]) ∧ Below w.heap.size w w' := by
 have hu23 := Try.underlying23
 have HB := a0_ (Below.refl w.heap.size w)
 have H : ((stipendref03_Right.f a0_0 a0_1 a0_2).bind fun t504 => (if t504 = true then (stipendref03_Months.l0 k a1 a0_0 a0_1 a0_0 a0_1 a0_2) else (some (0, 0, 0, false)))) = some (r1, r2, r3, r4) := h
 clear h
 replace H := oB_ H
 obtain ⟨t504, A30, H⟩ := H
 replace H : (if t504 = true then (stipendref03_Months.l0 k a1 a0_0 a0_1 a0_0 a0_1 a0_2) else (some (0, 0, 0, false))) = some (r1, r2, r3, r4) := H
 have A3 := a0_ A30
 clear A30
 by_cases c4 : t504 = true
 ·subst c4
  have H1 : (stipendref03_Months.l0 k a1 a0_0 a0_1 a0_0 a0_1 a0_2) = some (r1, r2, r3, r4) := by rw [if_pos rfl] at H; exact H
  clear H
  have H := H1
  clear H1
  have H' := a0_ H
  clear H
  go_enter Try.func21, Try.ntmps21
  try go_wp2_with (first | ((with_reducible refine gate_dst (N := 2) rfl ?_); refine box_event ?hg (N := 2) ?hd (cs := #[.int .i64 a0_0, .int .i64 a0_1, .int .i64 a0_2]) (t := 23) ?hr ?_; (case hd => rfl); (case hg => rfl); (case hr => first | (go_simp; done) | (go_simp; rfl)); intro gb502 hg w5 hbox hb; have n0_ := a0_ (below_step (by repeat (first | (with_reducible first | exact HB.out | apply lA_ | apply lN_ | apply lD_) | exact HB.out)) hb); have n1_ := a0_ (hbox); have n2_ := a0_ ((by rw [hg]; exact (below_size (by repeat (first | (with_reducible first | exact HB.out | apply lA_ | apply lN_ | apply lD_) | exact HB.out))) : w.heap.size ≤ gb502)); have n3_ := a0_ ((by rw [hg]; exact (below_size (by repeat (first | (with_reducible first | exact HB.out | apply lA_ | apply lN_ | apply lD_) | exact HB.out))) : w.heap.size ≤ gb502)); clear HB; have HB := n0_; have BK502 := n1_; have GW502 := n2_; have GE502 := n3_; clear n0_ n1_ n2_ n3_; clear hb hbox hg) | ((with_reducible refine gate_dst (N := 4) rfl ?_); refine box_event ?hg (N := 4) ?hd (cs := #[.int .i64 0, .int .i64 0, .int .i64 0]) (t := 23) ?hr ?_; (case hd => rfl); (case hg => rfl); (case hr => first | (go_simp; done) | (go_simp; rfl)); intro gb503 hg w6 hbox hb; have n0_ := a0_ (bB_ (g := gb502) (o := .cells #[.int .i64 a0_0, .int .i64 a0_1, .int .i64 a0_2] 23 (0, 0)) (by (with_reducible repeat first | apply bN_ | apply bD_ | apply bA_); exact BK502.out) hb); have n1_ := a0_ (below_step (by repeat (first | (with_reducible first | exact HB.out | apply lA_ | apply lN_ | apply lD_ | refine lS_ ?_ GE502.out) | exact HB.out)) hb); have n2_ := a0_ (hbox); have n3_ := a0_ ((by rw [hg]; exact (below_size (by repeat (first | (with_reducible first | exact HB.out | apply lA_ | apply lN_ | apply lD_ | refine lS_ ?_ GE502.out) | exact HB.out))) : w.heap.size ≤ gb503)); have n4_ := a0_ ((by rw [hg]; exact (below_size (by repeat (first | (with_reducible first | exact HB.out | apply lA_ | apply lN_ | apply lD_ | refine lS_ ?_ GE502.out) | exact HB.out))) : w.heap.size ≤ gb503)); have n5_ := a0_ ((by rw [hg]; exact Nat.ne_of_lt (blk_lt (g := gb502) (o := .cells #[.int .i64 a0_0, .int .i64 a0_1, .int .i64 a0_2] 23 (0, 0)) (by (with_reducible repeat first | apply bN_ | apply bD_ | apply bA_); exact BK502.out)) : gb502 ≠ gb503)); have n6_ := a0_ ((by rw [hg]; exact Nat.ne_of_gt (blk_lt (g := gb502) (o := .cells #[.int .i64 a0_0, .int .i64 a0_1, .int .i64 a0_2] 23 (0, 0)) (by (with_reducible repeat first | apply bN_ | apply bD_ | apply bA_); exact BK502.out)) : gb503 ≠ gb502)); clear BK502; clear HB; have BK502 := n0_; have HB := n1_; have BK503 := n2_; have GW503 := n3_; have GE503 := n4_; have NB502_503 := n5_; have NB503_502 := n6_; clear n0_ n1_ n2_ n3_ n4_ n5_ n6_; clear hb hbox hg; have hnb7 := NB502_503.out; have hnc7 := NB503_502.out; have hcz8_0 : w6.cell? ⟨gb502, 0, none⟩ = some (.int .i64 a0_0) := (bC_ BK502.out 0).trans rfl; have hcz8_1 : w6.cell? ⟨gb502, 1, none⟩ = some (.int .i64 a0_1) := (bC_ BK502.out 1).trans rfl; have hcz8_2 : w6.cell? ⟨gb502, 2, none⟩ = some (.int .i64 a0_2) := (bC_ BK502.out 2).trans rfl; have hfz8_0 := bF_ BK502.out 0; have hfz8_1 := bF_ BK502.out 1; have hfz8_2 := bF_ BK502.out 2) | ((with_reducible refine gate_callee (f := 43) rfl ?_); refine goesL_ (some 11) rfl rfl Try.func43 (by kernel_rfl) rfl #[.agg #[.int .i64 a0_0, .int .i64 a0_1, .int .i64 a0_2]] rfl (by (try simp only [List.map_toArray, List.map_cons, List.map_nil]); first | done | rfl) ?_; (with_reducible refine (stipendref03_Right.calls a0_0 a0_1 a0_2 true _ A3.out).mono ?_); rintro e w9 ⟨rfl, hb⟩; refine ⟨_, rfl, ?_⟩; have n0_ := a0_ (bB_ (g := gb502) (o := .cells #[.int .i64 a0_0, .int .i64 a0_1, .int .i64 a0_2] 23 (0, 0)) (by (with_reducible repeat first | apply bN_ | apply bD_ | apply bA_); exact BK502.out) hb); have n1_ := a0_ (bB_ (g := gb503) (o := .cells #[.int .i64 0, .int .i64 0, .int .i64 0] 23 (0, 0)) (by (with_reducible repeat first | apply bN_ | apply bD_ | apply bA_); exact BK503.out) hb); have n2_ := a0_ (below_step (by repeat (first | (with_reducible first | exact HB.out | apply lA_ | apply lN_ | apply lD_ | refine lS_ ?_ GE502.out | refine lS_ ?_ GE503.out) | exact HB.out)) hb); clear BK502; clear BK503; clear HB; have BK502 := n0_; have BK503 := n1_; have HB := n2_; clear n0_ n1_ n2_; (try clear hb); (try clear hb2); (try clear hk); (try clear hi)))
  have n0_ := a0_ (bD_ BK502.out)
  have n1_ := a0_ (bD_ BK503.out)
  have n2_ := a0_ (lD_ HB.out)
  clear BK502
  clear BK503
  clear HB
  have BK502 := n0_
  have BK503 := n1_
  have HB := n2_
  clear n0_ n1_ n2_
  refine start_ (n := 6) (S := fun w' => w'.cell? ⟨gb502, 0, none⟩ = some (.int .i64 a0_0) ∧ w'.cell? ⟨gb502, 1, none⟩ = some (.int .i64 a0_1) ∧ w'.cell? ⟨gb502, 2, none⟩ = some (.int .i64 a0_2)) (ds := []) #[false, false, false, false, false, false] (by kernel_rfl) rfl rfl ⟨(bC_ BK502.out 0).trans rfl, (bC_ BK502.out 1).trans rfl, (bC_ BK502.out 2).trans rfl⟩ (fun hHeld => ?_)
  generalize w9.drew = w10 at BK502 BK503 HB hHeld ⊢
  refine pure_ (i := 0) (N := some 14) (v := ?_) (a' := ?_) #[true, false, false, false, false, false] rfl rfl (by kernel_rfl) (fun _ _ _ h => h) (Or.inl ⟨by rfl, ?_⟩) ?_ ?_
  rotate_left
  ·intro w'
   go_simp
   with_reducible rfl
  rotate_left
  ·simp only [Act.put, zA_, zB_, zC_, i64_w, i32_w]
   rfl
  refine pure_ (i := 2) (N := some 16) (v := ?_) (a' := ?_) #[true, false, true, false, false, false] rfl rfl (by kernel_rfl) (fun _ _ _ h => h) (Or.inl ⟨by rfl, ?_⟩) ?_ ?_
  rotate_left
  ·intro w'
   go_simp
   with_reducible rfl
  rotate_left
  ·simp only [Act.put, zA_, zB_, zC_, i64_w, i32_w]
   rfl
  refine take_ (i := 1) (N := some 15) (v := ?_) (a' := ?_) #[true, true, true, false, false, false] rfl rfl (by kernel_rfl) (fun _ _ _ h => h) (Or.inl ⟨by rfl, ?_⟩) hHeld ?_ ?_
  rotate_left
  ·rintro w' ⟨s0, s1, s2⟩
   go_simp
   with_reducible rfl
  rotate_left
  ·simp only [Act.put, zA_, zB_, zC_, i64_w, i32_w]
   rfl
  refine pure_ (i := 4) (N := some 6) (v := ?_) (a' := ?_) #[true, true, true, false, true, false] rfl rfl (by kernel_rfl) (fun _ _ _ h => h) (Or.inl ⟨by rfl, ?_⟩) ?_ ?_
  rotate_left
  ·intro w'
   go_simp
   with_reducible rfl
  rotate_left
  ·simp only [Act.put, zA_, zB_, zC_, i64_w, i32_w]
   rfl
  refine take_ (i := 3) (N := some 17) (v := ?_) (a' := ?_) #[true, true, true, true, true, false] rfl rfl (by kernel_rfl) (fun _ _ _ h => h) (Or.inl ⟨by rfl, ?_⟩) hHeld ?_ ?_
  rotate_left
  ·rintro w' ⟨s0, s1, s2⟩
   go_simp
   with_reducible rfl
  rotate_left
  ·simp only [Act.put, zA_, zB_, zC_, i64_w, i32_w]
   rfl
  refine pure_ (i := 5) (N := some 7) (v := ?_) (a' := ?_) #[true, true, true, true, true, true] rfl rfl (by kernel_rfl) (fun _ _ _ h => h) (Or.inl ⟨by rfl, ?_⟩) ?_ ?_
  rotate_left
  ·intro w'
   go_simp
   with_reducible rfl
  rotate_left
  ·simp only [Act.put, zA_, zB_, zC_, i64_w, i32_w]
   rfl
  refine done_ (by kernel_rfl) ?_
  try go_wp2
  go_loopg [1, 6, 7] k (fun kq v1 v6 v7 w' => ∃ (x1_1 : Int) (x6_1 : Int) (x7_1 : Int), v1 = .int .i64 x1_1 ∧ v6 = .int .i64 x6_1 ∧ v7 = .int .i64 x7_1 ∧ Aside0 (stipendref03_Months.l0 kq x1_1 x6_1 x7_1 a0_0 a0_1 a0_2 = some (r1, r2, r3, r4)) ∧ Aside0 (kq ≤ k) ∧ Aside0 (w'.heap[gb502]? = some (.cells #[.int .i64 a0_0, .int .i64 a0_1, .int .i64 a0_2] 23 (0, 0))) ∧ Aside0 (w'.heap[gb503]? = some (.cells #[.int .i64 0, .int .i64 0, .int .i64 0] 23 (0, 0))) ∧ Aside0 (Below w.heap.size w w'))
  case atStart => exact ⟨(a1), (a0_0), (a0_1), (by first | rfl | (simp; done) | (simp [*]; done)), (by first | rfl | (simp; done) | (simp [*]; done)), (by first | rfl | (simp; done) | (simp [*]; done)), H', ⟨Nat.le_refl _⟩, ⟨by (with_reducible repeat first | apply bN_ | apply bD_ | apply bA_); exact BK502.out⟩, ⟨by (with_reducible repeat first | apply bN_ | apply bD_ | apply bA_); exact BK503.out⟩, ⟨by repeat (first | (with_reducible first | exact HB.out | apply lA_ | apply lN_ | apply lD_ | refine lS_ ?_ GE502.out | refine lS_ ?_ GE503.out) | exact HB.out)⟩⟩
  case round =>
   clear H'
   try clear c4
   try clear hcz8_0
   try clear hcz8_1
   try clear hcz8_2
   try clear hfz8_0
   try clear hfz8_1
   try clear hfz8_2
   obtain ⟨x1_1, x6_1, x7_1, rfl, rfl, rfl, HA, HK1, BK502, BK503, HB⟩ := hrel
   cases gk with
   | zero => exact absurd HA.out (by simp [stipendref03_Months.l0])
   | succ k1 =>
    have H := HA.out
    clear HA
    simp only [stipendref03_Months.l0] at H
    have HC11 := a0_ H
    clear H
    go_upto_region 4 with (fail)
    go_cut [23] (fun v23 wc => ∃ (kq : Nat) (x23_10 : Bool), v23 = .bool x23_10 ∧ Aside0 (stipendref03_Months.j1 kq x1_1 x6_1 x7_1 x23_10 a0_0 a0_1 a0_2 = some (r1, r2, r3, r4)) ∧ Aside0 (kq ≤ k1) ∧ Aside0 (wc.heap[gb502]? = some (.cells #[.int .i64 a0_0, .int .i64 a0_1, .int .i64 a0_2] 23 (0, 0))) ∧ Aside0 (wc.heap[gb503]? = some (.cells #[.int .i64 0, .int .i64 0, .int .i64 0] 23 (0, 0))) ∧ Aside0 (Below w.heap.size w wc))
    case first =>
     have H := HC11.out
     clear HC11
     by_cases c12 : x1_1 > 0
     ·rw [if_pos c12] at H
      have c12b0 : decide (0 < x1_1) = true := decide_eq_true c12
      clear c12
      (first | rw [c12b0] | (simp only [i64_w, i32_w]; rw [c12b0]) | skip)
      have H' := a0_ H
      clear H
      go_wp2
      go_meet
      case rel => exact ⟨_, (decide (x6_1 ≤ 2199)), (by first | rfl | (simp; done) | (simp [*]; done)), H', ⟨by have := HK1.out; first | omega | exact Nat.le_refl _⟩, ⟨by (with_reducible repeat first | apply bN_ | apply bD_ | apply bA_); exact BK502.out⟩, ⟨by (with_reducible repeat first | apply bN_ | apply bD_ | apply bA_); exact BK503.out⟩, ⟨by repeat (first | (with_reducible first | exact HB.out | apply lA_ | apply lN_ | apply lD_ | refine lS_ ?_ GE502.out | refine lS_ ?_ GE503.out) | exact HB.out)⟩⟩
     ·rw [if_neg c12] at H
      have c12b0 : decide (0 < x1_1) = false := decide_eq_false c12
      clear c12
      (first | rw [c12b0] | (simp only [i64_w, i32_w]; rw [c12b0]) | skip)
      have H' := a0_ H
      clear H
      go_wp2
      go_meet
      case rel => exact ⟨_, (false), (by first | rfl | (simp; done) | (simp [*]; done)), H', ⟨by have := HK1.out; first | omega | exact Nat.le_refl _⟩, ⟨by (with_reducible repeat first | apply bN_ | apply bD_ | apply bA_); exact BK502.out⟩, ⟨by (with_reducible repeat first | apply bN_ | apply bD_ | apply bA_); exact BK503.out⟩, ⟨by repeat (first | (with_reducible first | exact HB.out | apply lA_ | apply lN_ | apply lD_ | refine lS_ ?_ GE502.out | refine lS_ ?_ GE503.out) | exact HB.out)⟩⟩
    case rest =>
     clear HC11
     try clear c4
     try clear c12
     try clear c12b0
     try clear hcz8_0
     try clear hcz8_1
     try clear hcz8_2
     try clear hfz8_0
     try clear hfz8_1
     try clear hfz8_2
     obtain ⟨kq, x23_10, rfl, HA, HJ10, BK502, BK503, HB⟩ := hcut
     cases kq with
     | zero => exact absurd HA.out (by simp [stipendref03_Months.j1])
     | succ kj10 =>
      have H := HA.out
      clear HA
      simp only [stipendref03_Months.j1] at H
      by_cases c13 : x23_10 = true
      ·subst c13
       have H1 : (if (wrap64 (x7_1 + 1)) > 12 then (stipendref03_Months.l0 kj10 (wrap64 (x1_1 - 1)) (wrap64 (x6_1 + 1)) 1 a0_0 a0_1 a0_2) else (stipendref03_Months.l0 kj10 (wrap64 (x1_1 - 1)) x6_1 (wrap64 (x7_1 + 1)) a0_0 a0_1 a0_2)) = some (r1, r2, r3, r4) := by rw [if_pos rfl] at H; exact H
       clear H
       have H := H1
       clear H1
       by_cases c14 : (wrap64 (x7_1 + 1)) > 12
       ·rw [if_pos c14] at H
        have c14b0 : decide (12 < (wrap64 (x7_1 + 1))) = true := decide_eq_true c14
        clear c14
        have H' := a0_ H
        clear H
        go_wp2
        go_roundg kj10
        case measure => have := HK1.out; have := HJ10.out; omega
        case rel => exact ⟨(wrap64 (x1_1 - 1)), (wrap64 (x6_1 + 1)), (1), (by first | rfl | (simp; done) | (simp [*]; done)), (by first | rfl | (simp; done) | (simp [*]; done)), (by first | rfl | (simp; done) | (simp [*]; done)), H', ⟨by have := HK1.out; have := HJ10.out; omega⟩, ⟨by (with_reducible repeat first | apply bN_ | apply bD_ | apply bA_); exact BK502.out⟩, ⟨by (with_reducible repeat first | apply bN_ | apply bD_ | apply bA_); exact BK503.out⟩, ⟨by repeat (first | (with_reducible first | exact HB.out | apply lA_ | apply lN_ | apply lD_ | refine lS_ ?_ GE502.out | refine lS_ ?_ GE503.out) | exact HB.out)⟩⟩
       ·rw [if_neg c14] at H
        have c14b0 : decide (12 < (wrap64 (x7_1 + 1))) = false := decide_eq_false c14
        clear c14
        have H' := a0_ H
        clear H
        go_wp2
        go_roundg kj10
        case measure => have := HK1.out; have := HJ10.out; omega
        case rel => exact ⟨(wrap64 (x1_1 - 1)), (x6_1), (wrap64 (x7_1 + 1)), (by first | rfl | (simp; done) | (simp [*]; done)), (by first | rfl | (simp; done) | (simp [*]; done)), (by first | rfl | (simp; done) | (simp [*]; done)), H', ⟨by have := HK1.out; have := HJ10.out; omega⟩, ⟨by (with_reducible repeat first | apply bN_ | apply bD_ | apply bA_); exact BK502.out⟩, ⟨by (with_reducible repeat first | apply bN_ | apply bD_ | apply bA_); exact BK503.out⟩, ⟨by repeat (first | (with_reducible first | exact HB.out | apply lA_ | apply lN_ | apply lD_ | refine lS_ ?_ GE502.out | refine lS_ ?_ GE503.out) | exact HB.out)⟩⟩
      ·replace c13 := Bool.eq_false_iff.mpr c13
       subst c13
       have H1 : (stipendref03_Months.l1 kj10 x1_1 x6_1 x7_1 a0_0 a0_1 a0_2) = some (r1, r2, r3, r4) := by rw [if_neg (show ¬ (false = true) by decide)] at H; exact H
       clear H
       have H := H1
       clear H1
       have H' := a0_ H
       clear H
       go_wp2
       go_loopg [1, 6, 7] kj10 (fun kq v1 v6 v7 w' => ∃ (x1_3 : Int) (x6_3 : Int) (x7_3 : Int), v1 = .int .i64 x1_3 ∧ v6 = .int .i64 x6_3 ∧ v7 = .int .i64 x7_3 ∧ Aside0 (stipendref03_Months.l1 kq x1_3 x6_3 x7_3 a0_0 a0_1 a0_2 = some (r1, r2, r3, r4)) ∧ Aside0 (kq ≤ kj10) ∧ Aside0 (w'.heap[gb502]? = some (.cells #[.int .i64 a0_0, .int .i64 a0_1, .int .i64 a0_2] 23 (0, 0))) ∧ Aside0 (w'.heap[gb503]? = some (.cells #[.int .i64 0, .int .i64 0, .int .i64 0] 23 (0, 0))) ∧ Aside0 (Below w.heap.size w w'))
       case atStart => exact ⟨(x1_1), (x6_1), (x7_1), (by first | rfl | (simp; done) | (simp [*]; done)), (by first | rfl | (simp; done) | (simp [*]; done)), (by first | rfl | (simp; done) | (simp [*]; done)), H', ⟨Nat.le_refl _⟩, ⟨by (with_reducible repeat first | apply bN_ | apply bD_ | apply bA_); exact BK502.out⟩, ⟨by (with_reducible repeat first | apply bN_ | apply bD_ | apply bA_); exact BK503.out⟩, ⟨by repeat (first | (with_reducible first | exact HB.out | apply lA_ | apply lN_ | apply lD_ | refine lS_ ?_ GE502.out | refine lS_ ?_ GE503.out) | exact HB.out)⟩⟩
       case round =>
        clear H'
        try clear c4
        try clear c12
        try clear c12b0
        try clear c13
        try clear c14
        try clear c14b0
        try clear hcz8_0
        try clear hcz8_1
        try clear hcz8_2
        try clear hfz8_0
        try clear hfz8_1
        try clear hfz8_2
        obtain ⟨x1_3, x6_3, x7_3, rfl, rfl, rfl, HA, HK3, BK502, BK503, HB⟩ := hrel
        cases gk with
        | zero => exact absurd HA.out (by simp [stipendref03_Months.l1])
        | succ k3 =>
         have H := HA.out
         clear HA
         simp only [stipendref03_Months.l1] at H
         have HC15 := a0_ H
         clear H
         go_upto_region 9 with (fail)
         go_cut [37] (fun v37 wc => ∃ (kq : Nat) (x37_14 : Bool), v37 = .bool x37_14 ∧ Aside0 (stipendref03_Months.j3 kq x1_3 x6_3 x7_3 x37_14 a0_0 a0_1 a0_2 = some (r1, r2, r3, r4)) ∧ Aside0 (kq ≤ k3) ∧ Aside0 (wc.heap[gb502]? = some (.cells #[.int .i64 a0_0, .int .i64 a0_1, .int .i64 a0_2] 23 (0, 0))) ∧ Aside0 (wc.heap[gb503]? = some (.cells #[.int .i64 0, .int .i64 0, .int .i64 0] 23 (0, 0))) ∧ Aside0 (Below w.heap.size w wc))
         case first =>
          have H := HC15.out
          clear HC15
          by_cases c16 : x1_3 < 0
          ·rw [if_pos c16] at H
           have c16b0 : decide (x1_3 < 0) = true := decide_eq_true c16
           clear c16
           (first | rw [c16b0] | (simp only [i64_w, i32_w]; rw [c16b0]) | skip)
           have H' := a0_ H
           clear H
           go_wp2
           go_meet
           case rel => exact ⟨_, (decide (x6_3 ≥ 1900)), (by first | rfl | (simp; done) | (simp [*]; done)), H', ⟨by have := HK1.out; have := HJ10.out; have := HK3.out; first | omega | exact Nat.le_refl _⟩, ⟨by (with_reducible repeat first | apply bN_ | apply bD_ | apply bA_); exact BK502.out⟩, ⟨by (with_reducible repeat first | apply bN_ | apply bD_ | apply bA_); exact BK503.out⟩, ⟨by repeat (first | (with_reducible first | exact HB.out | apply lA_ | apply lN_ | apply lD_ | refine lS_ ?_ GE502.out | refine lS_ ?_ GE503.out) | exact HB.out)⟩⟩
          ·rw [if_neg c16] at H
           have c16b0 : decide (x1_3 < 0) = false := decide_eq_false c16
           clear c16
           (first | rw [c16b0] | (simp only [i64_w, i32_w]; rw [c16b0]) | skip)
           have H' := a0_ H
           clear H
           go_wp2
           go_meet
           case rel => exact ⟨_, (false), (by first | rfl | (simp; done) | (simp [*]; done)), H', ⟨by have := HK1.out; have := HJ10.out; have := HK3.out; first | omega | exact Nat.le_refl _⟩, ⟨by (with_reducible repeat first | apply bN_ | apply bD_ | apply bA_); exact BK502.out⟩, ⟨by (with_reducible repeat first | apply bN_ | apply bD_ | apply bA_); exact BK503.out⟩, ⟨by repeat (first | (with_reducible first | exact HB.out | apply lA_ | apply lN_ | apply lD_ | refine lS_ ?_ GE502.out | refine lS_ ?_ GE503.out) | exact HB.out)⟩⟩
         case rest =>
          clear HC15
          try clear c4
          try clear c12
          try clear c12b0
          try clear c13
          try clear c14
          try clear c14b0
          try clear c16
          try clear c16b0
          try clear hcz8_0
          try clear hcz8_1
          try clear hcz8_2
          try clear hfz8_0
          try clear hfz8_1
          try clear hfz8_2
          obtain ⟨kq, x37_14, rfl, HA, HJ14, BK502, BK503, HB⟩ := hcut
          cases kq with
          | zero => exact absurd HA.out (by simp [stipendref03_Months.j3])
          | succ kj14 =>
           have H := HA.out
           clear HA
           simp only [stipendref03_Months.j3] at H
           by_cases c17 : x37_14 = true
           ·subst c17
            have H1 : (if (wrap64 (x7_3 - 1)) < 1 then (stipendref03_Months.l1 kj14 (wrap64 (x1_3 + 1)) (wrap64 (x6_3 - 1)) 12 a0_0 a0_1 a0_2) else (stipendref03_Months.l1 kj14 (wrap64 (x1_3 + 1)) x6_3 (wrap64 (x7_3 - 1)) a0_0 a0_1 a0_2)) = some (r1, r2, r3, r4) := by rw [if_pos rfl] at H; exact H
            clear H
            have H := H1
            clear H1
            by_cases c18 : (wrap64 (x7_3 - 1)) < 1
            ·rw [if_pos c18] at H
             have c18b0 : decide ((wrap64 (x7_3 - 1)) < 1) = true := decide_eq_true c18
             clear c18
             have H' := a0_ H
             clear H
             go_wp2
             go_roundg kj14
             case measure => have := HK1.out; have := HJ10.out; have := HK3.out; have := HJ14.out; omega
             case rel => exact ⟨(wrap64 (x1_3 + 1)), (wrap64 (x6_3 - 1)), (12), (by first | rfl | (simp; done) | (simp [*]; done)), (by first | rfl | (simp; done) | (simp [*]; done)), (by first | rfl | (simp; done) | (simp [*]; done)), H', ⟨by have := HK1.out; have := HJ10.out; have := HK3.out; have := HJ14.out; omega⟩, ⟨by (with_reducible repeat first | apply bN_ | apply bD_ | apply bA_); exact BK502.out⟩, ⟨by (with_reducible repeat first | apply bN_ | apply bD_ | apply bA_); exact BK503.out⟩, ⟨by repeat (first | (with_reducible first | exact HB.out | apply lA_ | apply lN_ | apply lD_ | refine lS_ ?_ GE502.out | refine lS_ ?_ GE503.out) | exact HB.out)⟩⟩
            ·rw [if_neg c18] at H
             have c18b0 : decide ((wrap64 (x7_3 - 1)) < 1) = false := decide_eq_false c18
             clear c18
             have H' := a0_ H
             clear H
             go_wp2
             go_roundg kj14
             case measure => have := HK1.out; have := HJ10.out; have := HK3.out; have := HJ14.out; omega
             case rel => exact ⟨(wrap64 (x1_3 + 1)), (x6_3), (wrap64 (x7_3 - 1)), (by first | rfl | (simp; done) | (simp [*]; done)), (by first | rfl | (simp; done) | (simp [*]; done)), (by first | rfl | (simp; done) | (simp [*]; done)), H', ⟨by have := HK1.out; have := HJ10.out; have := HK3.out; have := HJ14.out; omega⟩, ⟨by (with_reducible repeat first | apply bN_ | apply bD_ | apply bA_); exact BK502.out⟩, ⟨by (with_reducible repeat first | apply bN_ | apply bD_ | apply bA_); exact BK503.out⟩, ⟨by repeat (first | (with_reducible first | exact HB.out | apply lA_ | apply lN_ | apply lD_ | refine lS_ ?_ GE502.out | refine lS_ ?_ GE503.out) | exact HB.out)⟩⟩
           ·replace c17 := Bool.eq_false_iff.mpr c17
            subst c17
            have H1 : (stipendref03_Months.l2 kj14 x6_3 x7_3 a0_2) = some (r1, r2, r3, r4) := by rw [if_neg (show ¬ (false = true) by decide)] at H; exact H
            clear H
            have H := H1
            clear H1
            have H' := a0_ H
            clear H
            have hnb19 := NB502_503.out
            have hnc19 := NB503_502.out
            have hcz20_0 : wc.cell? ⟨gb502, 0, none⟩ = some (.int .i64 a0_0) := (bC_ BK502.out 0).trans rfl
            have hcz20_1 : wc.cell? ⟨gb502, 1, none⟩ = some (.int .i64 a0_1) := (bC_ BK502.out 1).trans rfl
            have hcz20_2 : wc.cell? ⟨gb502, 2, none⟩ = some (.int .i64 a0_2) := (bC_ BK502.out 2).trans rfl
            have hfz20_0 := bF_ BK502.out 0
            have hfz20_1 := bF_ BK502.out 1
            have hfz20_2 := bF_ BK502.out 2
            go_wp2
            go_loopg [8] kj14 (fun kq v8 w' => ∃ (x8_5 : Int), v8 = .int .i64 x8_5 ∧ Aside0 (stipendref03_Months.l2 kq x6_3 x7_3 x8_5 = some (r1, r2, r3, r4)) ∧ Aside0 (kq ≤ kj14) ∧ Aside0 (w'.heap[gb502]? = some (.cells #[.int .i64 a0_0, .int .i64 a0_1, .int .i64 a0_2] 23 (0, 0))) ∧ Aside0 (w'.heap[gb503]? = some (.cells #[.int .i64 0, .int .i64 0, .int .i64 0] 23 (0, 0))) ∧ Aside0 (Below w.heap.size w w'))
            case atStart => exact ⟨(a0_2), (by first | rfl | (simp; done) | (simp [*]; done)), H', ⟨Nat.le_refl _⟩, ⟨by (with_reducible repeat first | apply bN_ | apply bD_ | apply bA_); exact BK502.out⟩, ⟨by (with_reducible repeat first | apply bN_ | apply bD_ | apply bA_); exact BK503.out⟩, ⟨by repeat (first | (with_reducible first | exact HB.out | apply lA_ | apply lN_ | apply lD_ | refine lS_ ?_ GE502.out | refine lS_ ?_ GE503.out) | exact HB.out)⟩⟩
            case round =>
             clear H'
             try clear c4
             try clear c12
             try clear c12b0
             try clear c13
             try clear c14
             try clear c14b0
             try clear c16
             try clear c16b0
             try clear c17
             try clear c18
             try clear c18b0
             try clear hcz20_0
             try clear hcz20_1
             try clear hcz20_2
             try clear hcz8_0
             try clear hcz8_1
             try clear hcz8_2
             try clear hfz20_0
             try clear hfz20_1
             try clear hfz20_2
             try clear hfz8_0
             try clear hfz8_1
             try clear hfz8_2
             obtain ⟨x8_5, rfl, HA, HK5, BK502, BK503, HB⟩ := hrel
             cases gk with
             | zero => exact absurd HA.out (by simp [stipendref03_Months.l2])
             | succ k5 =>
              have H := HA.out
              clear HA
              simp only [stipendref03_Months.l2] at H
              by_cases c21 : x8_5 > 28
              ·rw [if_pos c21] at H
               have c21b0 : decide (28 < x8_5) = true := decide_eq_true c21
               clear c21
               replace H := oB_ H
               obtain ⟨t505, A220, H⟩ := H
               replace H : (if x8_5 > t505 then (stipendref03_Months.l2 k5 x6_3 x7_3 (wrap64 (x8_5 - 1))) else ((stipendref03_Right.f x6_3 x7_3 x8_5).bind fun t507 => (some (x6_3, x7_3, x8_5, t507)))) = some (r1, r2, r3, r4) := H
               have A22 := a0_ A220
               clear A220
               by_cases c23 : x8_5 > t505
               ·rw [if_pos c23] at H
                have c23b0 : decide (t505 < x8_5) = true := decide_eq_true c23
                clear c23
                have H' := a0_ H
                clear H
                go_wp2_with (first | (go_at_call 26; (with_reducible refine (stipendref03_Month.calls x6_3 x7_3 t505 _ A22.out).mono ?_); rintro e w24 ⟨rfl, hb⟩; have n0_ := a0_ (bB_ (g := gb502) (o := .cells #[.int .i64 a0_0, .int .i64 a0_1, .int .i64 a0_2] 23 (0, 0)) (by (with_reducible repeat first | apply bN_ | apply bD_ | apply bA_); exact BK502.out) hb); have n1_ := a0_ (bB_ (g := gb503) (o := .cells #[.int .i64 0, .int .i64 0, .int .i64 0] 23 (0, 0)) (by (with_reducible repeat first | apply bN_ | apply bD_ | apply bA_); exact BK503.out) hb); have n2_ := a0_ (below_step (by repeat (first | (with_reducible first | exact HB.out | apply lA_ | apply lN_ | apply lD_ | refine lS_ ?_ GE502.out | refine lS_ ?_ GE503.out) | exact HB.out)) hb); clear BK502; clear BK503; clear HB; have BK502 := n0_; have BK503 := n1_; have HB := n2_; clear n0_ n1_ n2_; (try clear hb); (try clear hb2); (try clear hk); (try clear hi)))
                go_roundg k5
                case measure => have := HK1.out; have := HJ10.out; have := HK3.out; have := HJ14.out; have := HK5.out; omega
                case rel => exact ⟨(wrap64 (x8_5 - 1)), (by first | rfl | (simp; done) | (simp [*]; done)), H', ⟨by have := HK1.out; have := HJ10.out; have := HK3.out; have := HJ14.out; have := HK5.out; omega⟩, ⟨by (with_reducible repeat first | apply bN_ | apply bD_ | apply bA_); exact BK502.out⟩, ⟨by (with_reducible repeat first | apply bN_ | apply bD_ | apply bA_); exact BK503.out⟩, ⟨by repeat (first | (with_reducible first | exact HB.out | apply lA_ | apply lN_ | apply lD_ | refine lS_ ?_ GE502.out | refine lS_ ?_ GE503.out) | exact HB.out)⟩⟩
               ·rw [if_neg c23] at H
                have c23b0 : decide (t505 < x8_5) = false := decide_eq_false c23
                clear c23
                replace H := oB_ H
                obtain ⟨t507, A250, H⟩ := H
                replace H : (some (x6_3, x7_3, x8_5, t507)) = some (r1, r2, r3, r4) := H
                have A25 := a0_ A250
                clear A250
                simp only [Option.some.injEq, Prod.mk.injEq] at H
                obtain ⟨rfl, rfl, rfl, rfl⟩ := H
                try go_wp2_with (first | (go_at_call 26; (with_reducible refine (stipendref03_Month.calls x6_3 x7_3 t505 _ A22.out).mono ?_); rintro e w26 ⟨rfl, hb⟩; have n0_ := a0_ (bB_ (g := gb502) (o := .cells #[.int .i64 a0_0, .int .i64 a0_1, .int .i64 a0_2] 23 (0, 0)) (by (with_reducible repeat first | apply bN_ | apply bD_ | apply bA_); exact BK502.out) hb); have n1_ := a0_ (bB_ (g := gb503) (o := .cells #[.int .i64 0, .int .i64 0, .int .i64 0] 23 (0, 0)) (by (with_reducible repeat first | apply bN_ | apply bD_ | apply bA_); exact BK503.out) hb); have n2_ := a0_ (below_step (by repeat (first | (with_reducible first | exact HB.out | apply lA_ | apply lN_ | apply lD_ | refine lS_ ?_ GE502.out | refine lS_ ?_ GE503.out) | exact HB.out)) hb); clear BK502; clear BK503; clear HB; have BK502 := n0_; have BK503 := n1_; have HB := n2_; clear n0_ n1_ n2_; (try clear hb); (try clear hb2); (try clear hk); (try clear hi)) | ((with_reducible refine gate_dst (N := 9) rfl ?_); refine box_event ?hg (N := 9) ?hd (cs := #[.int .i64 0, .int .i64 0, .int .i64 0]) (t := 23) ?hr ?_; (case hd => rfl); (case hg => rfl); (case hr => first | (go_simp; done) | (go_simp; rfl)); intro gb506 hg w27 hbox hb; have n0_ := a0_ (bB_ (g := gb502) (o := .cells #[.int .i64 a0_0, .int .i64 a0_1, .int .i64 a0_2] 23 (0, 0)) (by (with_reducible repeat first | apply bN_ | apply bD_ | apply bA_); exact BK502.out) hb); have n1_ := a0_ (bB_ (g := gb503) (o := .cells #[.int .i64 0, .int .i64 0, .int .i64 0] 23 (0, 0)) (by (with_reducible repeat first | apply bN_ | apply bD_ | apply bA_); exact BK503.out) hb); have n2_ := a0_ (below_step (by repeat (first | (with_reducible first | exact HB.out | apply lA_ | apply lN_ | apply lD_ | refine lS_ ?_ GE502.out | refine lS_ ?_ GE503.out) | exact HB.out)) hb); have n3_ := a0_ (hbox); have n4_ := a0_ ((by rw [hg]; exact (below_size (by repeat (first | (with_reducible first | exact HB.out | apply lA_ | apply lN_ | apply lD_ | refine lS_ ?_ GE502.out | refine lS_ ?_ GE503.out) | exact HB.out))) : w.heap.size ≤ gb506)); have n5_ := a0_ ((by rw [hg]; exact (below_size (by repeat (first | (with_reducible first | exact HB.out | apply lA_ | apply lN_ | apply lD_ | refine lS_ ?_ GE502.out | refine lS_ ?_ GE503.out) | exact HB.out))) : w.heap.size ≤ gb506)); have n6_ := a0_ ((by rw [hg]; exact Nat.ne_of_lt (blk_lt (g := gb502) (o := .cells #[.int .i64 a0_0, .int .i64 a0_1, .int .i64 a0_2] 23 (0, 0)) (by (with_reducible repeat first | apply bN_ | apply bD_ | apply bA_); exact BK502.out)) : gb502 ≠ gb506)); have n7_ := a0_ ((by rw [hg]; exact Nat.ne_of_gt (blk_lt (g := gb502) (o := .cells #[.int .i64 a0_0, .int .i64 a0_1, .int .i64 a0_2] 23 (0, 0)) (by (with_reducible repeat first | apply bN_ | apply bD_ | apply bA_); exact BK502.out)) : gb506 ≠ gb502)); have n8_ := a0_ ((by rw [hg]; exact Nat.ne_of_lt (blk_lt (g := gb503) (o := .cells #[.int .i64 0, .int .i64 0, .int .i64 0] 23 (0, 0)) (by (with_reducible repeat first | apply bN_ | apply bD_ | apply bA_); exact BK503.out)) : gb503 ≠ gb506)); have n9_ := a0_ ((by rw [hg]; exact Nat.ne_of_gt (blk_lt (g := gb503) (o := .cells #[.int .i64 0, .int .i64 0, .int .i64 0] 23 (0, 0)) (by (with_reducible repeat first | apply bN_ | apply bD_ | apply bA_); exact BK503.out)) : gb506 ≠ gb503)); clear BK502; clear BK503; clear HB; have BK502 := n0_; have BK503 := n1_; have HB := n2_; have BK506 := n3_; have GW506 := n4_; have GE506 := n5_; have NB502_506 := n6_; have NB506_502 := n7_; have NB503_506 := n8_; have NB506_503 := n9_; clear n0_ n1_ n2_ n3_ n4_ n5_ n6_ n7_ n8_ n9_; clear hb hbox hg; have hnb28 := NB506_502.out; have hnc28 := NB502_506.out; have hnb29 := NB506_503.out; have hnc29 := NB503_506.out; have hcz30_0 : w27.cell? ⟨gb506, 0, none⟩ = some (.int .i64 0) := (bC_ BK506.out 0).trans rfl; have hcz30_1 : w27.cell? ⟨gb506, 1, none⟩ = some (.int .i64 0) := (bC_ BK506.out 1).trans rfl; have hcz30_2 : w27.cell? ⟨gb506, 2, none⟩ = some (.int .i64 0) := (bC_ BK506.out 2).trans rfl; have hfz30_0 := bF_ BK506.out 0; have hfz30_1 := bF_ BK506.out 1; have hfz30_2 := bF_ BK506.out 2))
                have n0_ : Aside0 ((((w27.setCell ⟨gb506, 0, none⟩ (.int .i64 x6_3)).setCell ⟨gb506, 1, none⟩ (.int .i64 x7_3)).setCell ⟨gb506, 2, none⟩ (.int .i64 x8_5)).heap[gb502]? = some (.cells #[.int .i64 a0_0, .int .i64 a0_1, .int .i64 a0_2] 23 (0, 0))) := ⟨by (with_reducible repeat first | apply bN_ | apply bD_ | apply bA_); refine blk_far ?_ NB502_506.out _; (with_reducible repeat first | apply bN_ | apply bD_ | apply bA_); refine blk_far ?_ NB502_506.out _; (with_reducible repeat first | apply bN_ | apply bD_ | apply bA_); refine blk_far ?_ NB502_506.out _; (with_reducible repeat first | apply bN_ | apply bD_ | apply bA_); exact BK502.out⟩
                have n1_ : Aside0 ((((w27.setCell ⟨gb506, 0, none⟩ (.int .i64 x6_3)).setCell ⟨gb506, 1, none⟩ (.int .i64 x7_3)).setCell ⟨gb506, 2, none⟩ (.int .i64 x8_5)).heap[gb503]? = some (.cells #[.int .i64 0, .int .i64 0, .int .i64 0] 23 (0, 0))) := ⟨by (with_reducible repeat first | apply bN_ | apply bD_ | apply bA_); refine blk_far ?_ NB503_506.out _; (with_reducible repeat first | apply bN_ | apply bD_ | apply bA_); refine blk_far ?_ NB503_506.out _; (with_reducible repeat first | apply bN_ | apply bD_ | apply bA_); refine blk_far ?_ NB503_506.out _; (with_reducible repeat first | apply bN_ | apply bD_ | apply bA_); exact BK503.out⟩
                have n2_ : Aside0 ((((w27.setCell ⟨gb506, 0, none⟩ (.int .i64 x6_3)).setCell ⟨gb506, 1, none⟩ (.int .i64 x7_3)).setCell ⟨gb506, 2, none⟩ (.int .i64 x8_5)).heap[gb506]? = some (.cells #[.int .i64 x6_3, .int .i64 x7_3, .int .i64 x8_5] 23 (0, 0))) := ⟨by (with_reducible repeat first | apply bN_ | apply bD_ | apply bA_); refine blk_put (cs := #[.int .i64 x6_3, .int .i64 x7_3, .int .i64 0]) ?_ 2 _ rfl; (with_reducible repeat first | apply bN_ | apply bD_ | apply bA_); refine blk_put (cs := #[.int .i64 x6_3, .int .i64 0, .int .i64 0]) ?_ 1 _ rfl; (with_reducible repeat first | apply bN_ | apply bD_ | apply bA_); refine blk_put (cs := #[.int .i64 0, .int .i64 0, .int .i64 0]) ?_ 0 _ rfl; (with_reducible repeat first | apply bN_ | apply bD_ | apply bA_); exact BK506.out⟩
                have n3_ : Aside0 (Below w.heap.size w (((w27.setCell ⟨gb506, 0, none⟩ (.int .i64 x6_3)).setCell ⟨gb506, 1, none⟩ (.int .i64 x7_3)).setCell ⟨gb506, 2, none⟩ (.int .i64 x8_5))) := ⟨by repeat (first | (with_reducible first | exact HB.out | apply lA_ | apply lN_ | apply lD_ | refine lS_ ?_ GE502.out | refine lS_ ?_ GE503.out | refine lS_ ?_ GE506.out) | exact HB.out)⟩
                (try clear BK502)
                (try clear BK503)
                (try clear BK506)
                (try clear HB)
                generalize (((w27.setCell ⟨gb506, 0, none⟩ (.int .i64 x6_3)).setCell ⟨gb506, 1, none⟩ (.int .i64 x7_3)).setCell ⟨gb506, 2, none⟩ (.int .i64 x8_5)) = w31 at n0_ n1_ n2_ n3_ ⊢
                have BK502 := n0_
                have BK503 := n1_
                have BK506 := n2_
                have HB := n3_
                clear n0_ n1_ n2_ n3_
                have n0_ := a0_ (bD_ BK502.out)
                have n1_ := a0_ (bD_ BK503.out)
                have n2_ := a0_ (bD_ BK506.out)
                have n3_ := a0_ (lD_ HB.out)
                clear BK502
                clear BK503
                clear BK506
                clear HB
                have BK502 := n0_
                have BK503 := n1_
                have BK506 := n2_
                have HB := n3_
                clear n0_ n1_ n2_ n3_
                refine start_ (n := 5) (S := fun w' => w'.cell? ⟨gb506, 0, none⟩ = some (.int .i64 x6_3) ∧ w'.cell? ⟨gb506, 1, none⟩ = some (.int .i64 x7_3) ∧ w'.cell? ⟨gb506, 2, none⟩ = some (.int .i64 x8_5)) (ds := []) #[false, false, false, false, false] (by kernel_rfl) rfl rfl ⟨(bC_ BK506.out 0).trans rfl, (bC_ BK506.out 1).trans rfl, (bC_ BK506.out 2).trans rfl⟩ (fun hHeld => ?_)
                generalize w31.drew = w32 at BK502 BK503 BK506 HB hHeld ⊢
                refine take_ (i := 0) (N := some 63) (v := ?_) (a' := ?_) #[true, false, false, false, false] rfl rfl (by kernel_rfl) (fun _ _ _ h => h) (Or.inl ⟨by rfl, ?_⟩) hHeld ?_ ?_
                rotate_left
                ·rintro w' ⟨s0, s1, s2⟩
                 go_simp
                 with_reducible rfl
                rotate_left
                ·simp only [Act.put, zA_, zB_, zC_, i64_w, i32_w]
                 rfl
                refine take_ (i := 1) (N := some 64) (v := ?_) (a' := ?_) #[true, true, false, false, false] rfl rfl (by kernel_rfl) (fun _ _ _ h => h) (Or.inl ⟨by rfl, ?_⟩) hHeld ?_ ?_
                rotate_left
                ·rintro w' ⟨s0, s1, s2⟩
                 go_simp
                 with_reducible rfl
                rotate_left
                ·simp only [Act.put, zA_, zB_, zC_, i64_w, i32_w]
                 rfl
                refine one_ (i := 2) (N := some 65) #[true, true, true, false, false] rfl rfl (by kernel_rfl) (by decide) (fun K hK => ?_)
                refine goes_ Try.func43 (by kernel_rfl) rfl #[.agg #[.int .i64 x6_3, .int .i64 x7_3, .int .i64 x8_5]] (by rfl) rfl rfl (by (try simp only [List.map_toArray, List.map_cons, List.map_nil]); first | done | rfl) ?_
                with_reducible refine (stipendref03_Right.calls x6_3 x7_3 x8_5 t507 _ A25.out).mono ?_
                rintro e w33 ⟨rfl, hb⟩
                refine ⟨_, rfl, ?_⟩
                have n0_ := a0_ (bB_ (g := gb502) (o := .cells #[.int .i64 a0_0, .int .i64 a0_1, .int .i64 a0_2] 23 (0, 0)) (by (with_reducible repeat first | apply bN_ | apply bD_ | apply bA_); exact BK502.out) hb)
                have n1_ := a0_ (bB_ (g := gb503) (o := .cells #[.int .i64 0, .int .i64 0, .int .i64 0] 23 (0, 0)) (by (with_reducible repeat first | apply bN_ | apply bD_ | apply bA_); exact BK503.out) hb)
                have n2_ := a0_ (bB_ (g := gb506) (o := .cells #[.int .i64 x6_3, .int .i64 x7_3, .int .i64 x8_5] 23 (0, 0)) (by (with_reducible repeat first | apply bN_ | apply bD_ | apply bA_); exact BK506.out) hb)
                have n3_ := a0_ (below_step (by repeat (first | (with_reducible first | exact HB.out | apply lA_ | apply lN_ | apply lD_ | refine lS_ ?_ GE502.out | refine lS_ ?_ GE503.out | refine lS_ ?_ GE506.out) | exact HB.out)) hb)
                clear BK502
                clear BK503
                clear BK506
                clear HB
                have BK502 := n0_
                have BK503 := n1_
                have BK506 := n2_
                have HB := n3_
                clear n0_ n1_ n2_ n3_
                (try clear hb)
                (try clear hb2)
                (try clear hk)
                (try clear hi)
                refine hK.out _ _ ⟨(bC_ BK506.out 0).trans rfl, (bC_ BK506.out 1).trans rfl, (bC_ BK506.out 2).trans rfl⟩ (fun hHeld => ?_)
                clear hK K
                refine norm_ (a' := ?_) ?_ ?_
                rotate_left
                ·show Act.put _ (some 65) _ = _
                 simp only [Act.put, zA_, zB_, zC_, i64_w, i32_w]
                 rfl
                refine one_ (i := 3) (N := none) #[true, true, true, true, false] rfl rfl (by kernel_rfl) (by decide) (fun K hK => ?_)
                have hs34 : w33.cell? ⟨gb503, 0, none⟩ = some (.int .i64 0) := (bC_ BK503.out 0).trans rfl
                have hfs34 := bF_ BK503.out 0
                have hns34_0 := NB502_503.out
                have hns34_2 := NB506_503.out
                have hms34_0 := NB503_502.out
                have hms34_2 := NB503_506.out
                have hs35 : w33.cell? ⟨gb503, 1, none⟩ = some (.int .i64 0) := (bC_ BK503.out 1).trans rfl
                have hfs35 := bF_ BK503.out 1
                have hns35_0 := NB502_503.out
                have hns35_2 := NB506_503.out
                have hms35_0 := NB503_502.out
                have hms35_2 := NB503_506.out
                have hs36 : w33.cell? ⟨gb503, 2, none⟩ = some (.int .i64 0) := (bC_ BK503.out 2).trans rfl
                have hfs36 := bF_ BK503.out 2
                have hns36_0 := NB502_503.out
                have hns36_2 := NB506_503.out
                have hms36_0 := NB503_502.out
                have hms36_2 := NB503_506.out
                refine skip_ (w1 := ?_) (by rfl) rfl ?_ ?_
                rotate_left
                ·go_simp
                 rfl
                refine hK.out _ _ ⟨((cell_far (p := ⟨gb503, _, none⟩) NB506_503.out _).trans (((cell_far (p := ⟨gb503, _, none⟩) NB506_503.out _).trans (((cell_far (p := ⟨gb503, _, none⟩) NB506_503.out _).trans (hHeld.1)))))), ((cell_far (p := ⟨gb503, _, none⟩) NB506_503.out _).trans (((cell_far (p := ⟨gb503, _, none⟩) NB506_503.out _).trans (((cell_far (p := ⟨gb503, _, none⟩) NB506_503.out _).trans (hHeld.2.1)))))), ((cell_far (p := ⟨gb503, _, none⟩) NB506_503.out _).trans (((cell_far (p := ⟨gb503, _, none⟩) NB506_503.out _).trans (((cell_far (p := ⟨gb503, _, none⟩) NB506_503.out _).trans (hHeld.2.2))))))⟩ (fun hHeld => ?_)
                clear hK K
                refine pure_ (i := 4) (N := some 5) (v := ?_) (a' := ?_) #[true, true, true, true, true] rfl rfl (by kernel_rfl) (fun _ _ _ h => h) (Or.inl ⟨by rfl, ?_⟩) ?_ ?_
                rotate_left
                ·intro w'
                 go_simp
                 with_reducible rfl
                rotate_left
                ·simp only [Act.put, zA_, zB_, zC_, i64_w, i32_w]
                 rfl
                refine done_ (by kernel_rfl) ?_
                try go_wp2
                refine bodyPost_ret (results_ct rfl _ _ gb503 23 #[.int .i64 x6_3, .int .i64 x7_3, .int .i64 x8_5] (0, 0) _ rfl (by (with_reducible repeat first | apply bN_ | apply bD_ | apply bA_); refine blk_put (cs := #[.int .i64 x6_3, .int .i64 x7_3, .int .i64 0]) ?_ 2 _ rfl; (with_reducible repeat first | apply bN_ | apply bD_ | apply bA_); refine blk_put (cs := #[.int .i64 x6_3, .int .i64 0, .int .i64 0]) ?_ 1 _ rfl; (with_reducible repeat first | apply bN_ | apply bD_ | apply bA_); refine blk_put (cs := #[.int .i64 0, .int .i64 0, .int .i64 0]) ?_ 0 _ rfl; (with_reducible repeat first | apply bN_ | apply bD_ | apply bA_); exact BK503.out) Try.underlying23 rfl (by kernel_rfl)) rfl ?_
                exact ⟨by first | rfl | (simp [errW_none, errW_some] <;> rfl) | (simp [*, errW_none, errW_some] <;> rfl), by repeat (first | (with_reducible first | exact HB.out | apply lA_ | apply lN_ | apply lD_ | refine lS_ ?_ GE502.out | refine lS_ ?_ GE503.out | refine lS_ ?_ GE506.out) | exact HB.out)⟩
              ·rw [if_neg c21] at H
               have c21b0 : decide (28 < x8_5) = false := decide_eq_false c21
               clear c21
               replace H := oB_ H
               obtain ⟨t509, A370, H⟩ := H
               replace H : (some (x6_3, x7_3, x8_5, t509)) = some (r1, r2, r3, r4) := H
               have A37 := a0_ A370
               clear A370
               simp only [Option.some.injEq, Prod.mk.injEq] at H
               obtain ⟨rfl, rfl, rfl, rfl⟩ := H
               try go_wp2_with (first | ((with_reducible refine gate_dst (N := 9) rfl ?_); refine box_event ?hg (N := 9) ?hd (cs := #[.int .i64 0, .int .i64 0, .int .i64 0]) (t := 23) ?hr ?_; (case hd => rfl); (case hg => rfl); (case hr => first | (go_simp; done) | (go_simp; rfl)); intro gb508 hg w38 hbox hb; have n0_ := a0_ (bB_ (g := gb502) (o := .cells #[.int .i64 a0_0, .int .i64 a0_1, .int .i64 a0_2] 23 (0, 0)) (by (with_reducible repeat first | apply bN_ | apply bD_ | apply bA_); exact BK502.out) hb); have n1_ := a0_ (bB_ (g := gb503) (o := .cells #[.int .i64 0, .int .i64 0, .int .i64 0] 23 (0, 0)) (by (with_reducible repeat first | apply bN_ | apply bD_ | apply bA_); exact BK503.out) hb); have n2_ := a0_ (below_step (by repeat (first | (with_reducible first | exact HB.out | apply lA_ | apply lN_ | apply lD_ | refine lS_ ?_ GE502.out | refine lS_ ?_ GE503.out) | exact HB.out)) hb); have n3_ := a0_ (hbox); have n4_ := a0_ ((by rw [hg]; exact (below_size (by repeat (first | (with_reducible first | exact HB.out | apply lA_ | apply lN_ | apply lD_ | refine lS_ ?_ GE502.out | refine lS_ ?_ GE503.out) | exact HB.out))) : w.heap.size ≤ gb508)); have n5_ := a0_ ((by rw [hg]; exact (below_size (by repeat (first | (with_reducible first | exact HB.out | apply lA_ | apply lN_ | apply lD_ | refine lS_ ?_ GE502.out | refine lS_ ?_ GE503.out) | exact HB.out))) : w.heap.size ≤ gb508)); have n6_ := a0_ ((by rw [hg]; exact Nat.ne_of_lt (blk_lt (g := gb502) (o := .cells #[.int .i64 a0_0, .int .i64 a0_1, .int .i64 a0_2] 23 (0, 0)) (by (with_reducible repeat first | apply bN_ | apply bD_ | apply bA_); exact BK502.out)) : gb502 ≠ gb508)); have n7_ := a0_ ((by rw [hg]; exact Nat.ne_of_gt (blk_lt (g := gb502) (o := .cells #[.int .i64 a0_0, .int .i64 a0_1, .int .i64 a0_2] 23 (0, 0)) (by (with_reducible repeat first | apply bN_ | apply bD_ | apply bA_); exact BK502.out)) : gb508 ≠ gb502)); have n8_ := a0_ ((by rw [hg]; exact Nat.ne_of_lt (blk_lt (g := gb503) (o := .cells #[.int .i64 0, .int .i64 0, .int .i64 0] 23 (0, 0)) (by (with_reducible repeat first | apply bN_ | apply bD_ | apply bA_); exact BK503.out)) : gb503 ≠ gb508)); have n9_ := a0_ ((by rw [hg]; exact Nat.ne_of_gt (blk_lt (g := gb503) (o := .cells #[.int .i64 0, .int .i64 0, .int .i64 0] 23 (0, 0)) (by (with_reducible repeat first | apply bN_ | apply bD_ | apply bA_); exact BK503.out)) : gb508 ≠ gb503)); clear BK502; clear BK503; clear HB; have BK502 := n0_; have BK503 := n1_; have HB := n2_; have BK508 := n3_; have GW508 := n4_; have GE508 := n5_; have NB502_508 := n6_; have NB508_502 := n7_; have NB503_508 := n8_; have NB508_503 := n9_; clear n0_ n1_ n2_ n3_ n4_ n5_ n6_ n7_ n8_ n9_; clear hb hbox hg; have hnb39 := NB508_502.out; have hnc39 := NB502_508.out; have hnb40 := NB508_503.out; have hnc40 := NB503_508.out; have hcz41_0 : w38.cell? ⟨gb508, 0, none⟩ = some (.int .i64 0) := (bC_ BK508.out 0).trans rfl; have hcz41_1 : w38.cell? ⟨gb508, 1, none⟩ = some (.int .i64 0) := (bC_ BK508.out 1).trans rfl; have hcz41_2 : w38.cell? ⟨gb508, 2, none⟩ = some (.int .i64 0) := (bC_ BK508.out 2).trans rfl; have hfz41_0 := bF_ BK508.out 0; have hfz41_1 := bF_ BK508.out 1; have hfz41_2 := bF_ BK508.out 2))
               have n0_ : Aside0 ((((w38.setCell ⟨gb508, 0, none⟩ (.int .i64 x6_3)).setCell ⟨gb508, 1, none⟩ (.int .i64 x7_3)).setCell ⟨gb508, 2, none⟩ (.int .i64 x8_5)).heap[gb502]? = some (.cells #[.int .i64 a0_0, .int .i64 a0_1, .int .i64 a0_2] 23 (0, 0))) := ⟨by (with_reducible repeat first | apply bN_ | apply bD_ | apply bA_); refine blk_far ?_ NB502_508.out _; (with_reducible repeat first | apply bN_ | apply bD_ | apply bA_); refine blk_far ?_ NB502_508.out _; (with_reducible repeat first | apply bN_ | apply bD_ | apply bA_); refine blk_far ?_ NB502_508.out _; (with_reducible repeat first | apply bN_ | apply bD_ | apply bA_); exact BK502.out⟩
               have n1_ : Aside0 ((((w38.setCell ⟨gb508, 0, none⟩ (.int .i64 x6_3)).setCell ⟨gb508, 1, none⟩ (.int .i64 x7_3)).setCell ⟨gb508, 2, none⟩ (.int .i64 x8_5)).heap[gb503]? = some (.cells #[.int .i64 0, .int .i64 0, .int .i64 0] 23 (0, 0))) := ⟨by (with_reducible repeat first | apply bN_ | apply bD_ | apply bA_); refine blk_far ?_ NB503_508.out _; (with_reducible repeat first | apply bN_ | apply bD_ | apply bA_); refine blk_far ?_ NB503_508.out _; (with_reducible repeat first | apply bN_ | apply bD_ | apply bA_); refine blk_far ?_ NB503_508.out _; (with_reducible repeat first | apply bN_ | apply bD_ | apply bA_); exact BK503.out⟩
               have n2_ : Aside0 ((((w38.setCell ⟨gb508, 0, none⟩ (.int .i64 x6_3)).setCell ⟨gb508, 1, none⟩ (.int .i64 x7_3)).setCell ⟨gb508, 2, none⟩ (.int .i64 x8_5)).heap[gb508]? = some (.cells #[.int .i64 x6_3, .int .i64 x7_3, .int .i64 x8_5] 23 (0, 0))) := ⟨by (with_reducible repeat first | apply bN_ | apply bD_ | apply bA_); refine blk_put (cs := #[.int .i64 x6_3, .int .i64 x7_3, .int .i64 0]) ?_ 2 _ rfl; (with_reducible repeat first | apply bN_ | apply bD_ | apply bA_); refine blk_put (cs := #[.int .i64 x6_3, .int .i64 0, .int .i64 0]) ?_ 1 _ rfl; (with_reducible repeat first | apply bN_ | apply bD_ | apply bA_); refine blk_put (cs := #[.int .i64 0, .int .i64 0, .int .i64 0]) ?_ 0 _ rfl; (with_reducible repeat first | apply bN_ | apply bD_ | apply bA_); exact BK508.out⟩
               have n3_ : Aside0 (Below w.heap.size w (((w38.setCell ⟨gb508, 0, none⟩ (.int .i64 x6_3)).setCell ⟨gb508, 1, none⟩ (.int .i64 x7_3)).setCell ⟨gb508, 2, none⟩ (.int .i64 x8_5))) := ⟨by repeat (first | (with_reducible first | exact HB.out | apply lA_ | apply lN_ | apply lD_ | refine lS_ ?_ GE502.out | refine lS_ ?_ GE503.out | refine lS_ ?_ GE508.out) | exact HB.out)⟩
               (try clear BK502)
               (try clear BK503)
               (try clear BK508)
               (try clear HB)
               generalize (((w38.setCell ⟨gb508, 0, none⟩ (.int .i64 x6_3)).setCell ⟨gb508, 1, none⟩ (.int .i64 x7_3)).setCell ⟨gb508, 2, none⟩ (.int .i64 x8_5)) = w42 at n0_ n1_ n2_ n3_ ⊢
               have BK502 := n0_
               have BK503 := n1_
               have BK508 := n2_
               have HB := n3_
               clear n0_ n1_ n2_ n3_
               have n0_ := a0_ (bD_ BK502.out)
               have n1_ := a0_ (bD_ BK503.out)
               have n2_ := a0_ (bD_ BK508.out)
               have n3_ := a0_ (lD_ HB.out)
               clear BK502
               clear BK503
               clear BK508
               clear HB
               have BK502 := n0_
               have BK503 := n1_
               have BK508 := n2_
               have HB := n3_
               clear n0_ n1_ n2_ n3_
               refine start_ (n := 5) (S := fun w' => w'.cell? ⟨gb508, 0, none⟩ = some (.int .i64 x6_3) ∧ w'.cell? ⟨gb508, 1, none⟩ = some (.int .i64 x7_3) ∧ w'.cell? ⟨gb508, 2, none⟩ = some (.int .i64 x8_5)) (ds := []) #[false, false, false, false, false] (by kernel_rfl) rfl rfl ⟨(bC_ BK508.out 0).trans rfl, (bC_ BK508.out 1).trans rfl, (bC_ BK508.out 2).trans rfl⟩ (fun hHeld => ?_)
               generalize w42.drew = w43 at BK502 BK503 BK508 HB hHeld ⊢
               refine take_ (i := 0) (N := some 63) (v := ?_) (a' := ?_) #[true, false, false, false, false] rfl rfl (by kernel_rfl) (fun _ _ _ h => h) (Or.inl ⟨by rfl, ?_⟩) hHeld ?_ ?_
               rotate_left
               ·rintro w' ⟨s0, s1, s2⟩
                go_simp
                with_reducible rfl
               rotate_left
               ·simp only [Act.put, zA_, zB_, zC_, i64_w, i32_w]
                rfl
               refine take_ (i := 1) (N := some 64) (v := ?_) (a' := ?_) #[true, true, false, false, false] rfl rfl (by kernel_rfl) (fun _ _ _ h => h) (Or.inl ⟨by rfl, ?_⟩) hHeld ?_ ?_
               rotate_left
               ·rintro w' ⟨s0, s1, s2⟩
                go_simp
                with_reducible rfl
               rotate_left
               ·simp only [Act.put, zA_, zB_, zC_, i64_w, i32_w]
                rfl
               refine one_ (i := 2) (N := some 65) #[true, true, true, false, false] rfl rfl (by kernel_rfl) (by decide) (fun K hK => ?_)
               refine goes_ Try.func43 (by kernel_rfl) rfl #[.agg #[.int .i64 x6_3, .int .i64 x7_3, .int .i64 x8_5]] (by rfl) rfl rfl (by (try simp only [List.map_toArray, List.map_cons, List.map_nil]); first | done | rfl) ?_
               with_reducible refine (stipendref03_Right.calls x6_3 x7_3 x8_5 t509 _ A37.out).mono ?_
               rintro e w44 ⟨rfl, hb⟩
               refine ⟨_, rfl, ?_⟩
               have n0_ := a0_ (bB_ (g := gb502) (o := .cells #[.int .i64 a0_0, .int .i64 a0_1, .int .i64 a0_2] 23 (0, 0)) (by (with_reducible repeat first | apply bN_ | apply bD_ | apply bA_); exact BK502.out) hb)
               have n1_ := a0_ (bB_ (g := gb503) (o := .cells #[.int .i64 0, .int .i64 0, .int .i64 0] 23 (0, 0)) (by (with_reducible repeat first | apply bN_ | apply bD_ | apply bA_); exact BK503.out) hb)
               have n2_ := a0_ (bB_ (g := gb508) (o := .cells #[.int .i64 x6_3, .int .i64 x7_3, .int .i64 x8_5] 23 (0, 0)) (by (with_reducible repeat first | apply bN_ | apply bD_ | apply bA_); exact BK508.out) hb)
               have n3_ := a0_ (below_step (by repeat (first | (with_reducible first | exact HB.out | apply lA_ | apply lN_ | apply lD_ | refine lS_ ?_ GE502.out | refine lS_ ?_ GE503.out | refine lS_ ?_ GE508.out) | exact HB.out)) hb)
               clear BK502
               clear BK503
               clear BK508
               clear HB
               have BK502 := n0_
               have BK503 := n1_
               have BK508 := n2_
               have HB := n3_
               clear n0_ n1_ n2_ n3_
               (try clear hb)
               (try clear hb2)
               (try clear hk)
               (try clear hi)
               refine hK.out _ _ ⟨(bC_ BK508.out 0).trans rfl, (bC_ BK508.out 1).trans rfl, (bC_ BK508.out 2).trans rfl⟩ (fun hHeld => ?_)
               clear hK K
               refine norm_ (a' := ?_) ?_ ?_
               rotate_left
               ·show Act.put _ (some 65) _ = _
                simp only [Act.put, zA_, zB_, zC_, i64_w, i32_w]
                rfl
               refine one_ (i := 3) (N := none) #[true, true, true, true, false] rfl rfl (by kernel_rfl) (by decide) (fun K hK => ?_)
               have hs45 : w44.cell? ⟨gb503, 0, none⟩ = some (.int .i64 0) := (bC_ BK503.out 0).trans rfl
               have hfs45 := bF_ BK503.out 0
               have hns45_0 := NB502_503.out
               have hns45_2 := NB508_503.out
               have hms45_0 := NB503_502.out
               have hms45_2 := NB503_508.out
               have hs46 : w44.cell? ⟨gb503, 1, none⟩ = some (.int .i64 0) := (bC_ BK503.out 1).trans rfl
               have hfs46 := bF_ BK503.out 1
               have hns46_0 := NB502_503.out
               have hns46_2 := NB508_503.out
               have hms46_0 := NB503_502.out
               have hms46_2 := NB503_508.out
               have hs47 : w44.cell? ⟨gb503, 2, none⟩ = some (.int .i64 0) := (bC_ BK503.out 2).trans rfl
               have hfs47 := bF_ BK503.out 2
               have hns47_0 := NB502_503.out
               have hns47_2 := NB508_503.out
               have hms47_0 := NB503_502.out
               have hms47_2 := NB503_508.out
               refine skip_ (w1 := ?_) (by rfl) rfl ?_ ?_
               rotate_left
               ·go_simp
                rfl
               refine hK.out _ _ ⟨((cell_far (p := ⟨gb503, _, none⟩) NB508_503.out _).trans (((cell_far (p := ⟨gb503, _, none⟩) NB508_503.out _).trans (((cell_far (p := ⟨gb503, _, none⟩) NB508_503.out _).trans (hHeld.1)))))), ((cell_far (p := ⟨gb503, _, none⟩) NB508_503.out _).trans (((cell_far (p := ⟨gb503, _, none⟩) NB508_503.out _).trans (((cell_far (p := ⟨gb503, _, none⟩) NB508_503.out _).trans (hHeld.2.1)))))), ((cell_far (p := ⟨gb503, _, none⟩) NB508_503.out _).trans (((cell_far (p := ⟨gb503, _, none⟩) NB508_503.out _).trans (((cell_far (p := ⟨gb503, _, none⟩) NB508_503.out _).trans (hHeld.2.2))))))⟩ (fun hHeld => ?_)
               clear hK K
               refine pure_ (i := 4) (N := some 5) (v := ?_) (a' := ?_) #[true, true, true, true, true] rfl rfl (by kernel_rfl) (fun _ _ _ h => h) (Or.inl ⟨by rfl, ?_⟩) ?_ ?_
               rotate_left
               ·intro w'
                go_simp
                with_reducible rfl
               rotate_left
               ·simp only [Act.put, zA_, zB_, zC_, i64_w, i32_w]
                rfl
               refine done_ (by kernel_rfl) ?_
               try go_wp2
               refine bodyPost_ret (results_ct rfl _ _ gb503 23 #[.int .i64 x6_3, .int .i64 x7_3, .int .i64 x8_5] (0, 0) _ rfl (by (with_reducible repeat first | apply bN_ | apply bD_ | apply bA_); refine blk_put (cs := #[.int .i64 x6_3, .int .i64 x7_3, .int .i64 0]) ?_ 2 _ rfl; (with_reducible repeat first | apply bN_ | apply bD_ | apply bA_); refine blk_put (cs := #[.int .i64 x6_3, .int .i64 0, .int .i64 0]) ?_ 1 _ rfl; (with_reducible repeat first | apply bN_ | apply bD_ | apply bA_); refine blk_put (cs := #[.int .i64 0, .int .i64 0, .int .i64 0]) ?_ 0 _ rfl; (with_reducible repeat first | apply bN_ | apply bD_ | apply bA_); exact BK503.out) Try.underlying23 rfl (by kernel_rfl)) rfl ?_
               exact ⟨by first | rfl | (simp [errW_none, errW_some] <;> rfl) | (simp [*, errW_none, errW_some] <;> rfl), by repeat (first | (with_reducible first | exact HB.out | apply lA_ | apply lN_ | apply lD_ | refine lS_ ?_ GE502.out | refine lS_ ?_ GE503.out | refine lS_ ?_ GE508.out) | exact HB.out)⟩
 ·replace c4 := Bool.eq_false_iff.mpr c4
  subst c4
  have H1 : (some (0, 0, 0, false)) = some (r1, r2, r3, r4) := by rw [if_neg (show ¬ (false = true) by decide)] at H; exact H
  clear H
  have H := H1
  clear H1
  simp only [Option.some.injEq, Prod.mk.injEq] at H
  obtain ⟨rfl, rfl, rfl, rfl⟩ := H
  go_enter Try.func21, Try.ntmps21
  go_wp2_with (first | ((with_reducible refine gate_dst (N := 2) rfl ?_); refine box_event ?hg (N := 2) ?hd (cs := #[.int .i64 a0_0, .int .i64 a0_1, .int .i64 a0_2]) (t := 23) ?hr ?_; (case hd => rfl); (case hg => rfl); (case hr => first | (go_simp; done) | (go_simp; rfl)); intro gb502 hg w48 hbox hb; have n0_ := a0_ (below_step (by repeat (first | (with_reducible first | exact HB.out | apply lA_ | apply lN_ | apply lD_) | exact HB.out)) hb); have n1_ := a0_ (hbox); have n2_ := a0_ ((by rw [hg]; exact (below_size (by repeat (first | (with_reducible first | exact HB.out | apply lA_ | apply lN_ | apply lD_) | exact HB.out))) : w.heap.size ≤ gb502)); have n3_ := a0_ ((by rw [hg]; exact (below_size (by repeat (first | (with_reducible first | exact HB.out | apply lA_ | apply lN_ | apply lD_) | exact HB.out))) : w.heap.size ≤ gb502)); clear HB; have HB := n0_; have BK502 := n1_; have GW502 := n2_; have GE502 := n3_; clear n0_ n1_ n2_ n3_; clear hb hbox hg) | ((with_reducible refine gate_dst (N := 4) rfl ?_); refine box_event ?hg (N := 4) ?hd (cs := #[.int .i64 0, .int .i64 0, .int .i64 0]) (t := 23) ?hr ?_; (case hd => rfl); (case hg => rfl); (case hr => first | (go_simp; done) | (go_simp; rfl)); intro gb503 hg w49 hbox hb; have n0_ := a0_ (bB_ (g := gb502) (o := .cells #[.int .i64 a0_0, .int .i64 a0_1, .int .i64 a0_2] 23 (0, 0)) (by (with_reducible repeat first | apply bN_ | apply bD_ | apply bA_); exact BK502.out) hb); have n1_ := a0_ (below_step (by repeat (first | (with_reducible first | exact HB.out | apply lA_ | apply lN_ | apply lD_ | refine lS_ ?_ GE502.out) | exact HB.out)) hb); have n2_ := a0_ (hbox); have n3_ := a0_ ((by rw [hg]; exact (below_size (by repeat (first | (with_reducible first | exact HB.out | apply lA_ | apply lN_ | apply lD_ | refine lS_ ?_ GE502.out) | exact HB.out))) : w.heap.size ≤ gb503)); have n4_ := a0_ ((by rw [hg]; exact (below_size (by repeat (first | (with_reducible first | exact HB.out | apply lA_ | apply lN_ | apply lD_ | refine lS_ ?_ GE502.out) | exact HB.out))) : w.heap.size ≤ gb503)); have n5_ := a0_ ((by rw [hg]; exact Nat.ne_of_lt (blk_lt (g := gb502) (o := .cells #[.int .i64 a0_0, .int .i64 a0_1, .int .i64 a0_2] 23 (0, 0)) (by (with_reducible repeat first | apply bN_ | apply bD_ | apply bA_); exact BK502.out)) : gb502 ≠ gb503)); have n6_ := a0_ ((by rw [hg]; exact Nat.ne_of_gt (blk_lt (g := gb502) (o := .cells #[.int .i64 a0_0, .int .i64 a0_1, .int .i64 a0_2] 23 (0, 0)) (by (with_reducible repeat first | apply bN_ | apply bD_ | apply bA_); exact BK502.out)) : gb503 ≠ gb502)); clear BK502; clear HB; have BK502 := n0_; have HB := n1_; have BK503 := n2_; have GW503 := n3_; have GE503 := n4_; have NB502_503 := n5_; have NB503_502 := n6_; clear n0_ n1_ n2_ n3_ n4_ n5_ n6_; clear hb hbox hg; have hnb50 := NB502_503.out; have hnc50 := NB503_502.out; have hcz51_0 : w49.cell? ⟨gb502, 0, none⟩ = some (.int .i64 a0_0) := (bC_ BK502.out 0).trans rfl; have hcz51_1 : w49.cell? ⟨gb502, 1, none⟩ = some (.int .i64 a0_1) := (bC_ BK502.out 1).trans rfl; have hcz51_2 : w49.cell? ⟨gb502, 2, none⟩ = some (.int .i64 a0_2) := (bC_ BK502.out 2).trans rfl; have hfz51_0 := bF_ BK502.out 0; have hfz51_1 := bF_ BK502.out 1; have hfz51_2 := bF_ BK502.out 2) | ((with_reducible refine gate_callee (f := 43) rfl ?_); refine goesL_ (some 11) rfl rfl Try.func43 (by kernel_rfl) rfl #[.agg #[.int .i64 a0_0, .int .i64 a0_1, .int .i64 a0_2]] rfl (by (try simp only [List.map_toArray, List.map_cons, List.map_nil]); first | done | rfl) ?_; (with_reducible refine (stipendref03_Right.calls a0_0 a0_1 a0_2 false _ A3.out).mono ?_); rintro e w52 ⟨rfl, hb⟩; refine ⟨_, rfl, ?_⟩; have n0_ := a0_ (bB_ (g := gb502) (o := .cells #[.int .i64 a0_0, .int .i64 a0_1, .int .i64 a0_2] 23 (0, 0)) (by (with_reducible repeat first | apply bN_ | apply bD_ | apply bA_); exact BK502.out) hb); have n1_ := a0_ (bB_ (g := gb503) (o := .cells #[.int .i64 0, .int .i64 0, .int .i64 0] 23 (0, 0)) (by (with_reducible repeat first | apply bN_ | apply bD_ | apply bA_); exact BK503.out) hb); have n2_ := a0_ (below_step (by repeat (first | (with_reducible first | exact HB.out | apply lA_ | apply lN_ | apply lD_ | refine lS_ ?_ GE502.out | refine lS_ ?_ GE503.out) | exact HB.out)) hb); clear BK502; clear BK503; clear HB; have BK502 := n0_; have BK503 := n1_; have HB := n2_; clear n0_ n1_ n2_; (try clear hb); (try clear hb2); (try clear hk); (try clear hi); have hcz53_0 : w52.cell? ⟨gb503, 0, none⟩ = some (.int .i64 0) := (bC_ BK503.out 0).trans rfl; have hcz53_1 : w52.cell? ⟨gb503, 1, none⟩ = some (.int .i64 0) := (bC_ BK503.out 1).trans rfl; have hcz53_2 : w52.cell? ⟨gb503, 2, none⟩ = some (.int .i64 0) := (bC_ BK503.out 2).trans rfl; have hfz53_0 := bF_ BK503.out 0; have hfz53_1 := bF_ BK503.out 1; have hfz53_2 := bF_ BK503.out 2))
  refine bodyPost_ret (results_ct rfl _ _ gb503 23 #[.int .i64 0, .int .i64 0, .int .i64 0] (0, 0) _ rfl (by (with_reducible repeat first | apply bN_ | apply bD_ | apply bA_); refine blk_put (cs := #[.int .i64 0, .int .i64 0, .int .i64 0]) ?_ 2 _ rfl; (with_reducible repeat first | apply bN_ | apply bD_ | apply bA_); refine blk_put (cs := #[.int .i64 0, .int .i64 0, .int .i64 0]) ?_ 1 _ rfl; (with_reducible repeat first | apply bN_ | apply bD_ | apply bA_); refine blk_put (cs := #[.int .i64 0, .int .i64 0, .int .i64 0]) ?_ 0 _ rfl; (with_reducible repeat first | apply bN_ | apply bD_ | apply bA_); exact BK503.out) Try.underlying23 rfl (by kernel_rfl)) rfl ?_
  exact ⟨by first | rfl | (simp [errW_none, errW_some] <;> rfl) | (simp [*, errW_none, errW_some] <;> rfl), by repeat (first | (with_reducible first | exact HB.out | apply lA_ | apply lN_ | apply lD_ | refine lS_ ?_ GE502.out | refine lS_ ?_ GE503.out) | exact HB.out)⟩

end Go.Proofs.Ytojinnnckfimhaa.X
