-- laid by the session's own program (xprint.py) out of Lean's print of the program; Lean checks it
import Derived.Test.YtojinnnckfimhaaX0
import Derived.Test.YtojinnnckfimhaaXstipendref03Long
namespace Go.Proofs.Ytojinnnckfimhaa.X
open Go.RowKit Go.Proofs.YtojinnnckfimhaaW.PrintWords Go.Proofs.YtojinnnckfimhaaW.PrintLast
set_option linter.unusedVariables false
set_option linter.unusedSimpArgs false

/-! ### stipendref03_Of: function 27 -/
mutual
def stipendref03_Of.l0 : Nat → Int → Int → Option (Int × Int × Int × Bool)
 | 0, _, _ => none
 | k + 1, x0, x4 => if x4 ≤ 2199 then ((stipendref03_Long.f x4).bind fun t770 => (if x0 ≥ t770 then ((stipendref03_Long.f x4).bind fun t771 => (stipendref03_Of.l0 k (wrap64 (x0 - t771)) (wrap64 (x4 + 1)))) else (stipendref03_Of.l1 k x0 x4 1))) else (some (0, 0, 0, false))
def stipendref03_Of.l1 : Nat → Int → Int → Int → Option (Int × Int × Int × Bool)
 | 0, _, _, _ => none
 | k + 1, x0, x4, x5 => (stipendref03_Month.f x4 x5).bind fun t772 => (if x0 ≥ t772 then ((stipendref03_Month.f x4 x5).bind fun t773 => (stipendref03_Of.l1 k (wrap64 (x0 - t773)) x4 (wrap64 (x5 + 1)))) else (some (x4, x5, wrap64 (x0 + 1), true)))
end
def stipendref03_Of.f (k : Nat) (a0 : Int) : Option (Int × Int × Int × Bool) := if a0 < 0 then (some (0, 0, 0, false)) else (stipendref03_Of.l0 k a0 1900)
set_option maxHeartbeats 8000000 in
set_option maxRecDepth 100000 in
theorem stipendref03_Of.calls (k : Nat) (a0 : Int) (r1 : Int) (r2 : Int) (r3 : Int) (r4 : Bool) (w : World) (h : stipendref03_Of.f k a0 = some (r1, r2, r3, r4)) :
  Calls Try.prog 27 #[.int .i64 a0] w fun e w' => e = .returned (.tuple #[.agg #[.int .i64 r1, .int .i64 r2, .int .i64 r3], .bool r4]) ∧ Below w.heap.size w w' := by
 have hu23 := Try.underlying23
 have HB := a0_ (Below.refl w.heap.size w)
 have H : (if a0 < 0 then (some (0, 0, 0, false)) else (stipendref03_Of.l0 k a0 1900)) = some (r1, r2, r3, r4) := h
 clear h
 by_cases c2 : a0 < 0
 ·rw [if_pos c2] at H
  have c2b0 : decide (a0 < 0) = true := decide_eq_true c2
  clear c2
  simp only [Option.some.injEq, Prod.mk.injEq] at H
  obtain ⟨rfl, rfl, rfl, rfl⟩ := H
  go_enter Try.func27, Try.ntmps27
  go_wp2_with (first | ((with_reducible refine gate_dst (N := 2) rfl ?_); refine box_event ?hg (N := 2) ?hd (cs := #[.int .i64 0, .int .i64 0, .int .i64 0]) (t := 23) ?hr ?_; (case hd => rfl); (case hg => rfl); (case hr => first | (go_simp; done) | (go_simp; rfl)); intro gb769 hg w3 hbox hb; have n0_ := a0_ (below_step (by repeat (first | (with_reducible first | exact HB.out | apply lA_ | apply lN_ | apply lD_) | exact HB.out)) hb); have n1_ := a0_ (hbox); have n2_ := a0_ ((by rw [hg]; exact (below_size (by repeat (first | (with_reducible first | exact HB.out | apply lA_ | apply lN_ | apply lD_) | exact HB.out))) : w.heap.size ≤ gb769)); have n3_ := a0_ ((by rw [hg]; exact (below_size (by repeat (first | (with_reducible first | exact HB.out | apply lA_ | apply lN_ | apply lD_) | exact HB.out))) : w.heap.size ≤ gb769)); clear HB; have HB := n0_; have BK769 := n1_; have GW769 := n2_; have GE769 := n3_; clear n0_ n1_ n2_ n3_; clear hb hbox hg; have hcz4_0 : w3.cell? ⟨gb769, 0, none⟩ = some (.int .i64 0) := (bC_ BK769.out 0).trans rfl; have hcz4_1 : w3.cell? ⟨gb769, 1, none⟩ = some (.int .i64 0) := (bC_ BK769.out 1).trans rfl; have hcz4_2 : w3.cell? ⟨gb769, 2, none⟩ = some (.int .i64 0) := (bC_ BK769.out 2).trans rfl; have hfz4_0 := bF_ BK769.out 0; have hfz4_1 := bF_ BK769.out 1; have hfz4_2 := bF_ BK769.out 2))
  refine bodyPost_ret (results_ct rfl _ _ gb769 23 #[.int .i64 0, .int .i64 0, .int .i64 0] (0, 0) _ rfl (by (with_reducible repeat first | apply bN_ | apply bD_ | apply bA_); refine blk_put (cs := #[.int .i64 0, .int .i64 0, .int .i64 0]) ?_ 2 _ rfl; (with_reducible repeat first | apply bN_ | apply bD_ | apply bA_); refine blk_put (cs := #[.int .i64 0, .int .i64 0, .int .i64 0]) ?_ 1 _ rfl; (with_reducible repeat first | apply bN_ | apply bD_ | apply bA_); refine blk_put (cs := #[.int .i64 0, .int .i64 0, .int .i64 0]) ?_ 0 _ rfl; (with_reducible repeat first | apply bN_ | apply bD_ | apply bA_); exact BK769.out) Try.underlying23 rfl (by kernel_rfl)) rfl ?_
  exact ⟨by first | rfl | (simp [errW_none, errW_some] <;> rfl) | (simp [*, errW_none, errW_some] <;> rfl), by repeat (first | (with_reducible first | exact HB.out | apply lA_ | apply lN_ | apply lD_ | refine lS_ ?_ GE769.out) | exact HB.out)⟩
 ·rw [if_neg c2] at H
  have c2b0 : decide (a0 < 0) = false := decide_eq_false c2
  clear c2
  have H' := a0_ H
  clear H
  go_enter Try.func27, Try.ntmps27
  go_wp2_with (first | ((with_reducible refine gate_dst (N := 2) rfl ?_); refine box_event ?hg (N := 2) ?hd (cs := #[.int .i64 0, .int .i64 0, .int .i64 0]) (t := 23) ?hr ?_; (case hd => rfl); (case hg => rfl); (case hr => first | (go_simp; done) | (go_simp; rfl)); intro gb769 hg w5 hbox hb; have n0_ := a0_ (below_step (by repeat (first | (with_reducible first | exact HB.out | apply lA_ | apply lN_ | apply lD_) | exact HB.out)) hb); have n1_ := a0_ (hbox); have n2_ := a0_ ((by rw [hg]; exact (below_size (by repeat (first | (with_reducible first | exact HB.out | apply lA_ | apply lN_ | apply lD_) | exact HB.out))) : w.heap.size ≤ gb769)); have n3_ := a0_ ((by rw [hg]; exact (below_size (by repeat (first | (with_reducible first | exact HB.out | apply lA_ | apply lN_ | apply lD_) | exact HB.out))) : w.heap.size ≤ gb769)); clear HB; have HB := n0_; have BK769 := n1_; have GW769 := n2_; have GE769 := n3_; clear n0_ n1_ n2_ n3_; clear hb hbox hg))
  go_loopg [0, 4] k (fun kq v0 v4 w' => ∃ (x0_1 : Int) (x4_1 : Int) (x770000_1 : Int) (x770001_1 : Int) (x770002_1 : Int), v0 = .int .i64 x0_1 ∧ v4 = .int .i64 x4_1 ∧ Aside0 (stipendref03_Of.l0 kq x0_1 x4_1 = some (r1, r2, r3, r4)) ∧ Aside0 (kq ≤ k) ∧ Aside0 (w'.heap[gb769]? = some (.cells #[.int .i64 x770000_1, .int .i64 x770001_1, .int .i64 x770002_1] 23 (0, 0))) ∧ Aside0 (Below w.heap.size w w'))
  case atStart => exact ⟨(a0), (1900), (0), (0), (0), (by first | rfl | (simp; done) | (simp [*]; done)), (by first | rfl | (simp; done) | (simp [*]; done)), H', ⟨Nat.le_refl _⟩, ⟨by (with_reducible repeat first | apply bN_ | apply bD_ | apply bA_); exact BK769.out⟩, ⟨by repeat (first | (with_reducible first | exact HB.out | apply lA_ | apply lN_ | apply lD_ | refine lS_ ?_ GE769.out) | exact HB.out)⟩⟩
  case round =>
   clear H'
   try clear c2
   try clear c2b0
   try clear hcz4_0
   try clear hcz4_1
   try clear hcz4_2
   try clear hfz4_0
   try clear hfz4_1
   try clear hfz4_2
   obtain ⟨x0_1, x4_1, x770000_1, x770001_1, x770002_1, rfl, rfl, HA, HK1, BK769, HB⟩ := hrel
   cases gk with
   | zero => exact absurd HA.out (by simp [stipendref03_Of.l0])
   | succ k1 =>
    have H := HA.out
    clear HA
    simp only [stipendref03_Of.l0] at H
    by_cases c6 : x4_1 ≤ 2199
    ·rw [if_pos c6] at H
     have c6b0 : decide (x4_1 ≤ 2199) = true := decide_eq_true c6
     clear c6
     replace H := oB_ H
     obtain ⟨t770, A70, H⟩ := H
     replace H : (if x0_1 ≥ t770 then ((stipendref03_Long.f x4_1).bind fun t771 => (stipendref03_Of.l0 k1 (wrap64 (x0_1 - t771)) (wrap64 (x4_1 + 1)))) else (stipendref03_Of.l1 k1 x0_1 x4_1 1)) = some (r1, r2, r3, r4) := H
     have A7 := a0_ A70
     clear A70
     by_cases c8 : x0_1 ≥ t770
     ·rw [if_pos c8] at H
      have c8b0 : decide (t770 ≤ x0_1) = true := decide_eq_true c8
      clear c8
      replace H := oB_ H
      obtain ⟨t771, A90, H⟩ := H
      replace H : (stipendref03_Of.l0 k1 (wrap64 (x0_1 - t771)) (wrap64 (x4_1 + 1))) = some (r1, r2, r3, r4) := H
      have A9 := a0_ A90
      clear A90
      have H' := a0_ H
      clear H
      go_wp2_with (first | ((with_reducible refine gate_callee (f := 44) rfl ?_); refine goesL_ (some 15) rfl rfl Try.func44 (by kernel_rfl) rfl #[.int .i64 x4_1] rfl (by (try simp only [List.map_toArray, List.map_cons, List.map_nil]); first | done | rfl) ?_; (with_reducible refine (stipendref03_Long.calls x4_1 t770 _ A7.out).mono ?_); rintro e w' ⟨rfl, ⟨nd, rfl⟩⟩; refine ⟨_, rfl, ?_⟩) | ((with_reducible refine gate_callee (f := 44) rfl ?_); refine goesL_ (some 19) rfl rfl Try.func44 (by kernel_rfl) rfl #[.int .i64 x4_1] rfl (by (try simp only [List.map_toArray, List.map_cons, List.map_nil]); first | done | rfl) ?_; (with_reducible refine (stipendref03_Long.calls x4_1 t771 _ A9.out).mono ?_); rintro e w' ⟨rfl, ⟨nd, rfl⟩⟩; refine ⟨_, rfl, ?_⟩))
      go_roundg k1
      case measure => have := HK1.out; omega
      case rel => exact ⟨(wrap64 (x0_1 - t771)), (wrap64 (x4_1 + 1)), (x770000_1), (x770001_1), (x770002_1), (by first | rfl | (simp; done) | (simp [*]; done)), (by first | rfl | (simp; done) | (simp [*]; done)), H', ⟨by have := HK1.out; omega⟩, ⟨by (with_reducible repeat first | apply bN_ | apply bD_ | apply bA_); exact BK769.out⟩, ⟨by repeat (first | (with_reducible first | exact HB.out | apply lA_ | apply lN_ | apply lD_ | refine lS_ ?_ GE769.out) | exact HB.out)⟩⟩
     ·rw [if_neg c8] at H
      have c8b0 : decide (t770 ≤ x0_1) = false := decide_eq_false c8
      clear c8
      have H' := a0_ H
      clear H
      go_wp2_with (first | ((with_reducible refine gate_callee (f := 44) rfl ?_); refine goesL_ (some 15) rfl rfl Try.func44 (by kernel_rfl) rfl #[.int .i64 x4_1] rfl (by (try simp only [List.map_toArray, List.map_cons, List.map_nil]); first | done | rfl) ?_; (with_reducible refine (stipendref03_Long.calls x4_1 t770 _ A7.out).mono ?_); rintro e w' ⟨rfl, ⟨nd, rfl⟩⟩; refine ⟨_, rfl, ?_⟩))
      go_loopg [0, 5] k1 (fun kq v0 v5 w' => ∃ (x0_2 : Int) (x5_2 : Int), v0 = .int .i64 x0_2 ∧ v5 = .int .i64 x5_2 ∧ Aside0 (stipendref03_Of.l1 kq x0_2 x4_1 x5_2 = some (r1, r2, r3, r4)) ∧ Aside0 (kq ≤ k1) ∧ Aside0 (w'.heap[gb769]? = some (.cells #[.int .i64 x770000_1, .int .i64 x770001_1, .int .i64 x770002_1] 23 (0, 0))) ∧ Aside0 (Below w.heap.size w w'))
      case atStart => exact ⟨(x0_1), (1), (by first | rfl | (simp; done) | (simp [*]; done)), (by first | rfl | (simp; done) | (simp [*]; done)), H', ⟨Nat.le_refl _⟩, ⟨by (with_reducible repeat first | apply bN_ | apply bD_ | apply bA_); exact BK769.out⟩, ⟨by repeat (first | (with_reducible first | exact HB.out | apply lA_ | apply lN_ | apply lD_ | refine lS_ ?_ GE769.out) | exact HB.out)⟩⟩
      case round =>
       clear H'
       try clear c2
       try clear c2b0
       try clear c6
       try clear c6b0
       try clear c8
       try clear c8b0
       try clear hcz4_0
       try clear hcz4_1
       try clear hcz4_2
       try clear hfz4_0
       try clear hfz4_1
       try clear hfz4_2
       obtain ⟨x0_2, x5_2, rfl, rfl, HA, HK2, BK769, HB⟩ := hrel
       cases gk with
       | zero => exact absurd HA.out (by simp [stipendref03_Of.l1])
       | succ k2 =>
        have H := HA.out
        clear HA
        simp only [stipendref03_Of.l1] at H
        replace H := oB_ H
        obtain ⟨t772, A100, H⟩ := H
        replace H : (if x0_2 ≥ t772 then ((stipendref03_Month.f x4_1 x5_2).bind fun t773 => (stipendref03_Of.l1 k2 (wrap64 (x0_2 - t773)) x4_1 (wrap64 (x5_2 + 1)))) else (some (x4_1, x5_2, wrap64 (x0_2 + 1), true))) = some (r1, r2, r3, r4) := H
        have A10 := a0_ A100
        clear A100
        by_cases c11 : x0_2 ≥ t772
        ·rw [if_pos c11] at H
         have c11b0 : decide (t772 ≤ x0_2) = true := decide_eq_true c11
         clear c11
         replace H := oB_ H
         obtain ⟨t773, A120, H⟩ := H
         replace H : (stipendref03_Of.l1 k2 (wrap64 (x0_2 - t773)) x4_1 (wrap64 (x5_2 + 1))) = some (r1, r2, r3, r4) := H
         have A12 := a0_ A120
         clear A120
         have H' := a0_ H
         clear H
         go_wp2_with (first | ((with_reducible refine gate_callee (f := 26) rfl ?_); refine goesL_ (some 24) rfl rfl Try.func26 (by kernel_rfl) rfl #[.int .i64 x4_1, .int .i64 x5_2] rfl (by (try simp only [List.map_toArray, List.map_cons, List.map_nil]); first | done | rfl) ?_; (with_reducible refine (stipendref03_Month.calls x4_1 x5_2 t772 _ A10.out).mono ?_); rintro e w13 ⟨rfl, hb⟩; refine ⟨_, rfl, ?_⟩; have n0_ := a0_ (bB_ (g := gb769) (o := .cells #[.int .i64 x770000_1, .int .i64 x770001_1, .int .i64 x770002_1] 23 (0, 0)) (by (with_reducible repeat first | apply bN_ | apply bD_ | apply bA_); exact BK769.out) hb); have n1_ := a0_ (below_step (by repeat (first | (with_reducible first | exact HB.out | apply lA_ | apply lN_ | apply lD_ | refine lS_ ?_ GE769.out) | exact HB.out)) hb); clear BK769; clear HB; have BK769 := n0_; have HB := n1_; clear n0_ n1_; (try clear hb); (try clear hb2); (try clear hk); (try clear hi)) | ((with_reducible refine gate_callee (f := 26) rfl ?_); refine goesL_ (some 29) rfl rfl Try.func26 (by kernel_rfl) rfl #[.int .i64 x4_1, .int .i64 x5_2] rfl (by (try simp only [List.map_toArray, List.map_cons, List.map_nil]); first | done | rfl) ?_; (with_reducible refine (stipendref03_Month.calls x4_1 x5_2 t773 _ A12.out).mono ?_); rintro e w14 ⟨rfl, hb⟩; refine ⟨_, rfl, ?_⟩; have n0_ := a0_ (bB_ (g := gb769) (o := .cells #[.int .i64 x770000_1, .int .i64 x770001_1, .int .i64 x770002_1] 23 (0, 0)) (by (with_reducible repeat first | apply bN_ | apply bD_ | apply bA_); exact BK769.out) hb); have n1_ := a0_ (below_step (by repeat (first | (with_reducible first | exact HB.out | apply lA_ | apply lN_ | apply lD_ | refine lS_ ?_ GE769.out) | exact HB.out)) hb); clear BK769; clear HB; have BK769 := n0_; have HB := n1_; clear n0_ n1_; (try clear hb); (try clear hb2); (try clear hk); (try clear hi)))
         go_roundg k2
         case measure => have := HK1.out; have := HK2.out; omega
         case rel => exact ⟨(wrap64 (x0_2 - t773)), (wrap64 (x5_2 + 1)), (by first | rfl | (simp; done) | (simp [*]; done)), (by first | rfl | (simp; done) | (simp [*]; done)), H', ⟨by have := HK1.out; have := HK2.out; omega⟩, ⟨by (with_reducible repeat first | apply bN_ | apply bD_ | apply bA_); exact BK769.out⟩, ⟨by repeat (first | (with_reducible first | exact HB.out | apply lA_ | apply lN_ | apply lD_ | refine lS_ ?_ GE769.out) | exact HB.out)⟩⟩
        ·rw [if_neg c11] at H
         have c11b0 : decide (t772 ≤ x0_2) = false := decide_eq_false c11
         clear c11
         simp only [Option.some.injEq, Prod.mk.injEq] at H
         obtain ⟨rfl, rfl, rfl, rfl⟩ := H
         go_wp2_with (first | ((with_reducible refine gate_callee (f := 26) rfl ?_); refine goesL_ (some 24) rfl rfl Try.func26 (by kernel_rfl) rfl #[.int .i64 x4_1, .int .i64 x5_2] rfl (by (try simp only [List.map_toArray, List.map_cons, List.map_nil]); first | done | rfl) ?_; (with_reducible refine (stipendref03_Month.calls x4_1 x5_2 t772 _ A10.out).mono ?_); rintro e w15 ⟨rfl, hb⟩; refine ⟨_, rfl, ?_⟩; have n0_ := a0_ (bB_ (g := gb769) (o := .cells #[.int .i64 x770000_1, .int .i64 x770001_1, .int .i64 x770002_1] 23 (0, 0)) (by (with_reducible repeat first | apply bN_ | apply bD_ | apply bA_); exact BK769.out) hb); have n1_ := a0_ (below_step (by repeat (first | (with_reducible first | exact HB.out | apply lA_ | apply lN_ | apply lD_ | refine lS_ ?_ GE769.out) | exact HB.out)) hb); clear BK769; clear HB; have BK769 := n0_; have HB := n1_; clear n0_ n1_; (try clear hb); (try clear hb2); (try clear hk); (try clear hi); have hcz16_0 : w15.cell? ⟨gb769, 0, none⟩ = some (.int .i64 x770000_1) := (bC_ BK769.out 0).trans rfl; have hcz16_1 : w15.cell? ⟨gb769, 1, none⟩ = some (.int .i64 x770001_1) := (bC_ BK769.out 1).trans rfl; have hcz16_2 : w15.cell? ⟨gb769, 2, none⟩ = some (.int .i64 x770002_1) := (bC_ BK769.out 2).trans rfl; have hfz16_0 := bF_ BK769.out 0; have hfz16_1 := bF_ BK769.out 1; have hfz16_2 := bF_ BK769.out 2))
         refine bodyPost_ret (results_ct rfl _ _ gb769 23 #[.int .i64 x4_1, .int .i64 x5_2, .int .i64 (wrap64 (x0_2 + 1))] (0, 0) _ rfl (by (with_reducible repeat first | apply bN_ | apply bD_ | apply bA_); refine blk_put (cs := #[.int .i64 x4_1, .int .i64 x5_2, .int .i64 x770002_1]) ?_ 2 _ rfl; (with_reducible repeat first | apply bN_ | apply bD_ | apply bA_); refine blk_put (cs := #[.int .i64 x4_1, .int .i64 x770001_1, .int .i64 x770002_1]) ?_ 1 _ rfl; (with_reducible repeat first | apply bN_ | apply bD_ | apply bA_); refine blk_put (cs := #[.int .i64 x770000_1, .int .i64 x770001_1, .int .i64 x770002_1]) ?_ 0 _ rfl; (with_reducible repeat first | apply bN_ | apply bD_ | apply bA_); exact BK769.out) Try.underlying23 rfl (by kernel_rfl)) rfl ?_
         exact ⟨by first | rfl | (simp [errW_none, errW_some] <;> rfl) | (simp [*, errW_none, errW_some] <;> rfl), by repeat (first | (with_reducible first | exact HB.out | apply lA_ | apply lN_ | apply lD_ | refine lS_ ?_ GE769.out) | exact HB.out)⟩
    ·rw [if_neg c6] at H
     have c6b0 : decide (x4_1 ≤ 2199) = false := decide_eq_false c6
     clear c6
     simp only [Option.some.injEq, Prod.mk.injEq] at H
     obtain ⟨rfl, rfl, rfl, rfl⟩ := H
     have hcz17_0 : wr.cell? ⟨gb769, 0, none⟩ = some (.int .i64 x770000_1) := (bC_ BK769.out 0).trans rfl
     have hcz17_1 : wr.cell? ⟨gb769, 1, none⟩ = some (.int .i64 x770001_1) := (bC_ BK769.out 1).trans rfl
     have hcz17_2 : wr.cell? ⟨gb769, 2, none⟩ = some (.int .i64 x770002_1) := (bC_ BK769.out 2).trans rfl
     have hfz17_0 := bF_ BK769.out 0
     have hfz17_1 := bF_ BK769.out 1
     have hfz17_2 := bF_ BK769.out 2
     go_wp2
     refine bodyPost_ret (results_ct rfl _ _ gb769 23 #[.int .i64 0, .int .i64 0, .int .i64 0] (0, 0) _ rfl (by (with_reducible repeat first | apply bN_ | apply bD_ | apply bA_); refine blk_put (cs := #[.int .i64 0, .int .i64 0, .int .i64 x770002_1]) ?_ 2 _ rfl; (with_reducible repeat first | apply bN_ | apply bD_ | apply bA_); refine blk_put (cs := #[.int .i64 0, .int .i64 x770001_1, .int .i64 x770002_1]) ?_ 1 _ rfl; (with_reducible repeat first | apply bN_ | apply bD_ | apply bA_); refine blk_put (cs := #[.int .i64 x770000_1, .int .i64 x770001_1, .int .i64 x770002_1]) ?_ 0 _ rfl; (with_reducible repeat first | apply bN_ | apply bD_ | apply bA_); exact BK769.out) Try.underlying23 rfl (by kernel_rfl)) rfl ?_
     exact ⟨by first | rfl | (simp [errW_none, errW_some] <;> rfl) | (simp [*, errW_none, errW_some] <;> rfl), by repeat (first | (with_reducible first | exact HB.out | apply lA_ | apply lN_ | apply lD_ | refine lS_ ?_ GE769.out) | exact HB.out)⟩

end Go.Proofs.Ytojinnnckfimhaa.X
