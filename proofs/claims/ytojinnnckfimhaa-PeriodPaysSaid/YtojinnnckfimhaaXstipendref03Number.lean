-- laid by the session's own program (xprint.py) out of Lean's print of the program; Lean checks it
import Derived.Test.YtojinnnckfimhaaX0
import Derived.Test.YtojinnnckfimhaaXstipendref03Long
namespace Go.Proofs.Ytojinnnckfimhaa.X
open Go.RowKit Go.Proofs.YtojinnnckfimhaaW.PrintWords Go.Proofs.YtojinnnckfimhaaW.PrintLast
set_option linter.unusedVariables false
set_option linter.unusedSimpArgs false

/-! ### stipendref03_Number: function 23 -/
mutual
def stipendref03_Number.l0 : Nat → Int → Int → Int → Int → Int → Option (Int)
 | 0, _, _, _, _, _ => none
 | k + 1, x3, x4, x511000, x511001, x511002 => if x4 < x511000 then ((stipendref03_Long.f x4).bind fun t512 => (stipendref03_Number.l0 k (wrap64 (x3 + t512)) (wrap64 (x4 + 1)) x511000 x511001 x511002)) else (stipendref03_Number.l1 k x3 1 x511000 x511001 x511002)
def stipendref03_Number.l1 : Nat → Int → Int → Int → Int → Int → Option (Int)
 | 0, _, _, _, _, _ => none
 | k + 1, x3, x5, x511000, x511001, x511002 => if x5 < x511001 then ((stipendref03_Month.f x511000 x5).bind fun t513 => (stipendref03_Number.l1 k (wrap64 (x3 + t513)) (wrap64 (x5 + 1)) x511000 x511001 x511002)) else (some x3)
end
def stipendref03_Number.f (k : Nat) (a0_0 : Int) (a0_1 : Int) (a0_2 : Int) : Option (Int) := (stipendref03_Right.f a0_0 a0_1 a0_2).bind fun t511 => (if t511 = true then (stipendref03_Number.l0 k (wrap64 (a0_2 - 1)) 1900 a0_0 a0_1 a0_2) else (some (-1)))
set_option maxHeartbeats 8000000 in
set_option maxRecDepth 100000 in
theorem stipendref03_Number.calls (k : Nat) (a0_0 : Int) (a0_1 : Int) (a0_2 : Int) (r : Int) (w : World) (h : stipendref03_Number.f k a0_0 a0_1 a0_2 = some r) :
  Calls Try.prog 23 #[.agg #[.int .i64 a0_0, .int .i64 a0_1, .int .i64 a0_2]] w fun e w' => e = .returned (.int .i64 r) ∧ Below w.heap.size w w' := by
 have hu23 := Try.underlying23
 have HB := a0_ (Below.refl w.heap.size w)
 have H : ((stipendref03_Right.f a0_0 a0_1 a0_2).bind fun t511 => (if t511 = true then (stipendref03_Number.l0 k (wrap64 (a0_2 - 1)) 1900 a0_0 a0_1 a0_2) else (some (-1)))) = some r := h
 clear h
 replace H := oB_ H
 obtain ⟨t511, A20, H⟩ := H
 replace H : (if t511 = true then (stipendref03_Number.l0 k (wrap64 (a0_2 - 1)) 1900 a0_0 a0_1 a0_2) else (some (-1))) = some r := H
 have A2 := a0_ A20
 clear A20
 by_cases c3 : t511 = true
 ·subst c3
  have H1 : (stipendref03_Number.l0 k (wrap64 (a0_2 - 1)) 1900 a0_0 a0_1 a0_2) = some r := by rw [if_pos rfl] at H; exact H
  clear H
  have H := H1
  clear H1
  have H' := a0_ H
  clear H
  go_enter Try.func23, Try.ntmps23
  go_wp2_with (first | ((with_reducible refine gate_dst (N := 1) rfl ?_); refine box_event ?hg (N := 1) ?hd (cs := #[.int .i64 a0_0, .int .i64 a0_1, .int .i64 a0_2]) (t := 23) ?hr ?_; (case hd => rfl); (case hg => rfl); (case hr => first | (go_simp; done) | (go_simp; rfl)); intro gb510 hg w4 hbox hb; have n0_ := a0_ (below_step (by repeat (first | (with_reducible first | exact HB.out | apply lA_ | apply lN_ | apply lD_) | exact HB.out)) hb); have n1_ := a0_ (hbox); have n2_ := a0_ ((by rw [hg]; exact (below_size (by repeat (first | (with_reducible first | exact HB.out | apply lA_ | apply lN_ | apply lD_) | exact HB.out))) : w.heap.size ≤ gb510)); have n3_ := a0_ ((by rw [hg]; exact (below_size (by repeat (first | (with_reducible first | exact HB.out | apply lA_ | apply lN_ | apply lD_) | exact HB.out))) : w.heap.size ≤ gb510)); clear HB; have HB := n0_; have BK510 := n1_; have GW510 := n2_; have GE510 := n3_; clear n0_ n1_ n2_ n3_; clear hb hbox hg; have hcz5_0 : w4.cell? ⟨gb510, 0, none⟩ = some (.int .i64 a0_0) := (bC_ BK510.out 0).trans rfl; have hcz5_1 : w4.cell? ⟨gb510, 1, none⟩ = some (.int .i64 a0_1) := (bC_ BK510.out 1).trans rfl; have hcz5_2 : w4.cell? ⟨gb510, 2, none⟩ = some (.int .i64 a0_2) := (bC_ BK510.out 2).trans rfl; have hfz5_0 := bF_ BK510.out 0; have hfz5_1 := bF_ BK510.out 1; have hfz5_2 := bF_ BK510.out 2) | ((with_reducible refine gate_callee (f := 43) rfl ?_); refine goesL_ (some 7) rfl rfl Try.func43 (by kernel_rfl) rfl #[.agg #[.int .i64 a0_0, .int .i64 a0_1, .int .i64 a0_2]] rfl (by (try simp only [List.map_toArray, List.map_cons, List.map_nil]); first | done | rfl) ?_; (with_reducible refine (stipendref03_Right.calls a0_0 a0_1 a0_2 true _ A2.out).mono ?_); rintro e w6 ⟨rfl, hb⟩; refine ⟨_, rfl, ?_⟩; have n0_ := a0_ (bB_ (g := gb510) (o := .cells #[.int .i64 a0_0, .int .i64 a0_1, .int .i64 a0_2] 23 (0, 0)) (by (with_reducible repeat first | apply bN_ | apply bD_ | apply bA_); exact BK510.out) hb); have n1_ := a0_ (below_step (by repeat (first | (with_reducible first | exact HB.out | apply lA_ | apply lN_ | apply lD_ | refine lS_ ?_ GE510.out) | exact HB.out)) hb); clear BK510; clear HB; have BK510 := n0_; have HB := n1_; clear n0_ n1_; (try clear hb); (try clear hb2); (try clear hk); (try clear hi); have hcz7_0 : w6.cell? ⟨gb510, 0, none⟩ = some (.int .i64 a0_0) := (bC_ BK510.out 0).trans rfl; have hcz7_1 : w6.cell? ⟨gb510, 1, none⟩ = some (.int .i64 a0_1) := (bC_ BK510.out 1).trans rfl; have hcz7_2 : w6.cell? ⟨gb510, 2, none⟩ = some (.int .i64 a0_2) := (bC_ BK510.out 2).trans rfl; have hfz7_0 := bF_ BK510.out 0; have hfz7_1 := bF_ BK510.out 1; have hfz7_2 := bF_ BK510.out 2))
  go_loopg [3, 4] k (fun kq v3 v4 w' => ∃ (x3_1 : Int) (x4_1 : Int), v3 = .int .i64 x3_1 ∧ v4 = .int .i64 x4_1 ∧ Aside0 (stipendref03_Number.l0 kq x3_1 x4_1 a0_0 a0_1 a0_2 = some r) ∧ Aside0 (kq ≤ k) ∧ Aside0 (w'.heap[gb510]? = some (.cells #[.int .i64 a0_0, .int .i64 a0_1, .int .i64 a0_2] 23 (0, 0))) ∧ Aside0 (Below w.heap.size w w'))
  case atStart => exact ⟨(wrap64 (a0_2 - 1)), (1900), (by first | rfl | (simp; done) | (simp [*]; done)), (by first | rfl | (simp; done) | (simp [*]; done)), H', ⟨Nat.le_refl _⟩, ⟨by (with_reducible repeat first | apply bN_ | apply bD_ | apply bA_); exact BK510.out⟩, ⟨by repeat (first | (with_reducible first | exact HB.out | apply lA_ | apply lN_ | apply lD_ | refine lS_ ?_ GE510.out) | exact HB.out)⟩⟩
  case round =>
   clear H'
   try clear c3
   try clear hcz5_0
   try clear hcz5_1
   try clear hcz5_2
   try clear hcz7_0
   try clear hcz7_1
   try clear hcz7_2
   try clear hfz5_0
   try clear hfz5_1
   try clear hfz5_2
   try clear hfz7_0
   try clear hfz7_1
   try clear hfz7_2
   obtain ⟨x3_1, x4_1, rfl, rfl, HA, HK1, BK510, HB⟩ := hrel
   cases gk with
   | zero => exact absurd HA.out (by simp [stipendref03_Number.l0])
   | succ k1 =>
    have H := HA.out
    clear HA
    simp only [stipendref03_Number.l0] at H
    by_cases c8 : x4_1 < a0_0
    ·rw [if_pos c8] at H
     have c8b0 : decide (x4_1 < a0_0) = true := decide_eq_true c8
     clear c8
     replace H := oB_ H
     obtain ⟨t512, A90, H⟩ := H
     replace H : (stipendref03_Number.l0 k1 (wrap64 (x3_1 + t512)) (wrap64 (x4_1 + 1)) a0_0 a0_1 a0_2) = some r := H
     have A9 := a0_ A90
     clear A90
     have H' := a0_ H
     clear H
     have hcz10_0 : wr.cell? ⟨gb510, 0, none⟩ = some (.int .i64 a0_0) := (bC_ BK510.out 0).trans rfl
     have hcz10_1 : wr.cell? ⟨gb510, 1, none⟩ = some (.int .i64 a0_1) := (bC_ BK510.out 1).trans rfl
     have hcz10_2 : wr.cell? ⟨gb510, 2, none⟩ = some (.int .i64 a0_2) := (bC_ BK510.out 2).trans rfl
     have hfz10_0 := bF_ BK510.out 0
     have hfz10_1 := bF_ BK510.out 1
     have hfz10_2 := bF_ BK510.out 2
     go_wp2_with (first | ((with_reducible refine gate_callee (f := 44) rfl ?_); refine goesL_ (some 20) rfl rfl Try.func44 (by kernel_rfl) rfl #[.int .i64 x4_1] rfl (by (try simp only [List.map_toArray, List.map_cons, List.map_nil]); first | done | rfl) ?_; (with_reducible refine (stipendref03_Long.calls x4_1 t512 _ A9.out).mono ?_); rintro e w' ⟨rfl, ⟨nd, rfl⟩⟩; refine ⟨_, rfl, ?_⟩))
     go_roundg k1
     case measure => have := HK1.out; omega
     case rel => exact ⟨(wrap64 (x3_1 + t512)), (wrap64 (x4_1 + 1)), (by first | rfl | (simp; done) | (simp [*]; done)), (by first | rfl | (simp; done) | (simp [*]; done)), H', ⟨by have := HK1.out; omega⟩, ⟨by (with_reducible repeat first | apply bN_ | apply bD_ | apply bA_); exact BK510.out⟩, ⟨by repeat (first | (with_reducible first | exact HB.out | apply lA_ | apply lN_ | apply lD_ | refine lS_ ?_ GE510.out) | exact HB.out)⟩⟩
    ·rw [if_neg c8] at H
     have c8b0 : decide (x4_1 < a0_0) = false := decide_eq_false c8
     clear c8
     have H' := a0_ H
     clear H
     have hcz11_0 : wr.cell? ⟨gb510, 0, none⟩ = some (.int .i64 a0_0) := (bC_ BK510.out 0).trans rfl
     have hcz11_1 : wr.cell? ⟨gb510, 1, none⟩ = some (.int .i64 a0_1) := (bC_ BK510.out 1).trans rfl
     have hcz11_2 : wr.cell? ⟨gb510, 2, none⟩ = some (.int .i64 a0_2) := (bC_ BK510.out 2).trans rfl
     have hfz11_0 := bF_ BK510.out 0
     have hfz11_1 := bF_ BK510.out 1
     have hfz11_2 := bF_ BK510.out 2
     go_wp2
     go_loopg [3, 5] k1 (fun kq v3 v5 w' => ∃ (x3_2 : Int) (x5_2 : Int), v3 = .int .i64 x3_2 ∧ v5 = .int .i64 x5_2 ∧ Aside0 (stipendref03_Number.l1 kq x3_2 x5_2 a0_0 a0_1 a0_2 = some r) ∧ Aside0 (kq ≤ k1) ∧ Aside0 (w'.heap[gb510]? = some (.cells #[.int .i64 a0_0, .int .i64 a0_1, .int .i64 a0_2] 23 (0, 0))) ∧ Aside0 (Below w.heap.size w w'))
     case atStart => exact ⟨(x3_1), (1), (by first | rfl | (simp; done) | (simp [*]; done)), (by first | rfl | (simp; done) | (simp [*]; done)), H', ⟨Nat.le_refl _⟩, ⟨by (with_reducible repeat first | apply bN_ | apply bD_ | apply bA_); exact BK510.out⟩, ⟨by repeat (first | (with_reducible first | exact HB.out | apply lA_ | apply lN_ | apply lD_ | refine lS_ ?_ GE510.out) | exact HB.out)⟩⟩
     case round =>
      clear H'
      try clear c3
      try clear c8
      try clear c8b0
      try clear hcz10_0
      try clear hcz10_1
      try clear hcz10_2
      try clear hcz11_0
      try clear hcz11_1
      try clear hcz11_2
      try clear hcz5_0
      try clear hcz5_1
      try clear hcz5_2
      try clear hcz7_0
      try clear hcz7_1
      try clear hcz7_2
      try clear hfz10_0
      try clear hfz10_1
      try clear hfz10_2
      try clear hfz11_0
      try clear hfz11_1
      try clear hfz11_2
      try clear hfz5_0
      try clear hfz5_1
      try clear hfz5_2
      try clear hfz7_0
      try clear hfz7_1
      try clear hfz7_2
      obtain ⟨x3_2, x5_2, rfl, rfl, HA, HK2, BK510, HB⟩ := hrel
      cases gk with
      | zero => exact absurd HA.out (by simp [stipendref03_Number.l1])
      | succ k2 =>
       have H := HA.out
       clear HA
       simp only [stipendref03_Number.l1] at H
       by_cases c12 : x5_2 < a0_1
       ·rw [if_pos c12] at H
        have c12b0 : decide (x5_2 < a0_1) = true := decide_eq_true c12
        clear c12
        replace H := oB_ H
        obtain ⟨t513, A130, H⟩ := H
        replace H : (stipendref03_Number.l1 k2 (wrap64 (x3_2 + t513)) (wrap64 (x5_2 + 1)) a0_0 a0_1 a0_2) = some r := H
        have A13 := a0_ A130
        clear A130
        have H' := a0_ H
        clear H
        have hcz14_0 : wr.cell? ⟨gb510, 0, none⟩ = some (.int .i64 a0_0) := (bC_ BK510.out 0).trans rfl
        have hcz14_1 : wr.cell? ⟨gb510, 1, none⟩ = some (.int .i64 a0_1) := (bC_ BK510.out 1).trans rfl
        have hcz14_2 : wr.cell? ⟨gb510, 2, none⟩ = some (.int .i64 a0_2) := (bC_ BK510.out 2).trans rfl
        have hfz14_0 := bF_ BK510.out 0
        have hfz14_1 := bF_ BK510.out 1
        have hfz14_2 := bF_ BK510.out 2
        go_wp2_with (first | ((with_reducible refine gate_callee (f := 26) rfl ?_); refine goesL_ (some 32) rfl rfl Try.func26 (by kernel_rfl) rfl #[.int .i64 a0_0, .int .i64 x5_2] rfl (by (try simp only [List.map_toArray, List.map_cons, List.map_nil]); first | done | rfl) ?_; (with_reducible refine (stipendref03_Month.calls a0_0 x5_2 t513 _ A13.out).mono ?_); rintro e w15 ⟨rfl, hb⟩; refine ⟨_, rfl, ?_⟩; have n0_ := a0_ (bB_ (g := gb510) (o := .cells #[.int .i64 a0_0, .int .i64 a0_1, .int .i64 a0_2] 23 (0, 0)) (by (with_reducible repeat first | apply bN_ | apply bD_ | apply bA_); exact BK510.out) hb); have n1_ := a0_ (below_step (by repeat (first | (with_reducible first | exact HB.out | apply lA_ | apply lN_ | apply lD_ | refine lS_ ?_ GE510.out) | exact HB.out)) hb); clear BK510; clear HB; have BK510 := n0_; have HB := n1_; clear n0_ n1_; (try clear hb); (try clear hb2); (try clear hk); (try clear hi)))
        go_roundg k2
        case measure => have := HK1.out; have := HK2.out; omega
        case rel => exact ⟨(wrap64 (x3_2 + t513)), (wrap64 (x5_2 + 1)), (by first | rfl | (simp; done) | (simp [*]; done)), (by first | rfl | (simp; done) | (simp [*]; done)), H', ⟨by have := HK1.out; have := HK2.out; omega⟩, ⟨by (with_reducible repeat first | apply bN_ | apply bD_ | apply bA_); exact BK510.out⟩, ⟨by repeat (first | (with_reducible first | exact HB.out | apply lA_ | apply lN_ | apply lD_ | refine lS_ ?_ GE510.out) | exact HB.out)⟩⟩
       ·rw [if_neg c12] at H
        have c12b0 : decide (x5_2 < a0_1) = false := decide_eq_false c12
        clear c12
        obtain rfl := Option.some.inj H
        have hcz16_0 : wr.cell? ⟨gb510, 0, none⟩ = some (.int .i64 a0_0) := (bC_ BK510.out 0).trans rfl
        have hcz16_1 : wr.cell? ⟨gb510, 1, none⟩ = some (.int .i64 a0_1) := (bC_ BK510.out 1).trans rfl
        have hcz16_2 : wr.cell? ⟨gb510, 2, none⟩ = some (.int .i64 a0_2) := (bC_ BK510.out 2).trans rfl
        have hfz16_0 := bF_ BK510.out 0
        have hfz16_1 := bF_ BK510.out 1
        have hfz16_2 := bF_ BK510.out 2
        go_wp2
        go_ret
        exact ⟨by first | rfl | (simp [errW_none, errW_some] <;> rfl) | (simp [*, errW_none, errW_some] <;> rfl), by repeat (first | (with_reducible first | exact HB.out | apply lA_ | apply lN_ | apply lD_ | refine lS_ ?_ GE510.out) | exact HB.out)⟩
 ·replace c3 := Bool.eq_false_iff.mpr c3
  subst c3
  have H1 : (some (-1)) = some r := by rw [if_neg (show ¬ (false = true) by decide)] at H; exact H
  clear H
  have H := H1
  clear H1
  obtain rfl := Option.some.inj H
  go_enter Try.func23, Try.ntmps23
  go_wp2_with (first | ((with_reducible refine gate_dst (N := 1) rfl ?_); refine box_event ?hg (N := 1) ?hd (cs := #[.int .i64 a0_0, .int .i64 a0_1, .int .i64 a0_2]) (t := 23) ?hr ?_; (case hd => rfl); (case hg => rfl); (case hr => first | (go_simp; done) | (go_simp; rfl)); intro gb510 hg w17 hbox hb; have n0_ := a0_ (below_step (by repeat (first | (with_reducible first | exact HB.out | apply lA_ | apply lN_ | apply lD_) | exact HB.out)) hb); have n1_ := a0_ (hbox); have n2_ := a0_ ((by rw [hg]; exact (below_size (by repeat (first | (with_reducible first | exact HB.out | apply lA_ | apply lN_ | apply lD_) | exact HB.out))) : w.heap.size ≤ gb510)); have n3_ := a0_ ((by rw [hg]; exact (below_size (by repeat (first | (with_reducible first | exact HB.out | apply lA_ | apply lN_ | apply lD_) | exact HB.out))) : w.heap.size ≤ gb510)); clear HB; have HB := n0_; have BK510 := n1_; have GW510 := n2_; have GE510 := n3_; clear n0_ n1_ n2_ n3_; clear hb hbox hg; have hcz18_0 : w17.cell? ⟨gb510, 0, none⟩ = some (.int .i64 a0_0) := (bC_ BK510.out 0).trans rfl; have hcz18_1 : w17.cell? ⟨gb510, 1, none⟩ = some (.int .i64 a0_1) := (bC_ BK510.out 1).trans rfl; have hcz18_2 : w17.cell? ⟨gb510, 2, none⟩ = some (.int .i64 a0_2) := (bC_ BK510.out 2).trans rfl; have hfz18_0 := bF_ BK510.out 0; have hfz18_1 := bF_ BK510.out 1; have hfz18_2 := bF_ BK510.out 2) | ((with_reducible refine gate_callee (f := 43) rfl ?_); refine goesL_ (some 7) rfl rfl Try.func43 (by kernel_rfl) rfl #[.agg #[.int .i64 a0_0, .int .i64 a0_1, .int .i64 a0_2]] rfl (by (try simp only [List.map_toArray, List.map_cons, List.map_nil]); first | done | rfl) ?_; (with_reducible refine (stipendref03_Right.calls a0_0 a0_1 a0_2 false _ A2.out).mono ?_); rintro e w19 ⟨rfl, hb⟩; refine ⟨_, rfl, ?_⟩; have n0_ := a0_ (bB_ (g := gb510) (o := .cells #[.int .i64 a0_0, .int .i64 a0_1, .int .i64 a0_2] 23 (0, 0)) (by (with_reducible repeat first | apply bN_ | apply bD_ | apply bA_); exact BK510.out) hb); have n1_ := a0_ (below_step (by repeat (first | (with_reducible first | exact HB.out | apply lA_ | apply lN_ | apply lD_ | refine lS_ ?_ GE510.out) | exact HB.out)) hb); clear BK510; clear HB; have BK510 := n0_; have HB := n1_; clear n0_ n1_; (try clear hb); (try clear hb2); (try clear hk); (try clear hi)))
  go_ret
  exact ⟨by first | rfl | (simp [errW_none, errW_some] <;> rfl) | (simp [*, errW_none, errW_some] <;> rfl), by repeat (first | (with_reducible first | exact HB.out | apply lA_ | apply lN_ | apply lD_ | refine lS_ ?_ GE510.out) | exact HB.out)⟩

end Go.Proofs.Ytojinnnckfimhaa.X
