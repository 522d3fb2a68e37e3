-- laid by the session's own program (xprint.py) out of Lean's print of the program; Lean checks it
import Derived.Test.YtojinnnckfimhaaX0
import Derived.Test.YtojinnnckfimhaaXperiodNominal
namespace Go.Proofs.Ytojinnnckfimhaa.X
open Go.RowKit Go.Proofs.YtojinnnckfimhaaW.PrintWords Go.Proofs.YtojinnnckfimhaaW.PrintLast
set_option linter.unusedVariables false
set_option linter.unusedSimpArgs false

/-! ### date_Of: function 40 -/
mutual
def date_Of.j0 : Nat → Int → Bool → Option (Int × Int × Int × Int)
 | 0, _, _ => none
 | k + 1, x0, x15 => if x15 = true then (some (0, 0, 0, 30)) else (date_Of.l0 k x0 (wrap64 (1900 + (wrap64 (Int.tdiv x0 366)))) 1 1)
def date_Of.j2 : Nat → Int → Int → Int → Int → Option (Int × Int × Int × Int)
 | 0, _, _, _, _ => none
 | k + 1, x0, x112000, x112001, x112002 => (date_Number.f k x112000 x112001 x112002).bind fun bt114 => (date_Of.l1 k (wrap64 (x0 - bt114.1)) x112000 x112001 x112002)
def date_Of.l1 : Nat → Int → Int → Int → Int → Option (Int × Int × Int × Int)
 | 0, _, _, _, _ => none
 | k + 1, x9, x112000, x112001, x112002 => (date_Last.f k x112000 x112001).bind fun t116 => (if x9 ≥ t116 then ((date_Last.f k x112000 x112001).bind fun t117 => (date_Of.l1 k (wrap64 (x9 - t117)) x112000 (wrap64 (x112001 + 1)) x112002)) else (some (x112000, x112001, wrap64 (x112002 + x9), 0)))
def date_Of.l0 : Nat → Int → Int → Int → Int → Option (Int × Int × Int × Int)
 | 0, _, _, _, _ => none
 | k + 1, x0, x112000, x112001, x112002 => if x112000 < 2199 then ((date_Number.f k (wrap64 (x112000 + 1)) 1 1).bind fun bt112 => (if bt112.1 > x0 then (date_Of.j2 k x0 x112000 x112001 x112002) else (date_Of.l0 k x0 (wrap64 (x112000 + 1)) x112001 x112002))) else (date_Of.j2 k x0 x112000 x112001 x112002)
end
def date_Of.f (k : Nat) (a0 : Int) : Option (Int × Int × Int × Int) := if a0 < 0 then (date_Of.j0 k a0 true) else (date_Of.j0 k a0 (decide (a0 ≥ 109573)))
set_option maxHeartbeats 8000000 in
set_option maxRecDepth 100000 in
theorem date_Of.calls (k : Nat) (a0 : Int) (r1 : Int) (r2 : Int) (r3 : Int) (r4 : Int) (w : World) (h : date_Of.f k a0 = some (r1, r2, r3, r4)) :
  Calls Try.prog 40 #[.int .i64 a0] w fun e w' => e = .returned (.tuple #[.agg #[.int .i64 r1, .int .i64 r2, .int .i64 r3], .int .i64 r4]) ∧ Below w.heap.size w w' := by
 have hu23 := Try.underlying23
 have HB := a0_ (Below.refl w.heap.size w)
 have H : (if a0 < 0 then (date_Of.j0 k a0 true) else (date_Of.j0 k a0 (decide (a0 ≥ 109573)))) = some (r1, r2, r3, r4) := h
 clear h
 have HC2 := a0_ H
 clear H
 go_enter Try.func40, Try.ntmps40
 go_upto_region 1 with (first | ((with_reducible refine gate_dst (N := 2) rfl ?_); refine box_event ?hg (N := 2) ?hd (cs := #[.int .i64 0, .int .i64 0, .int .i64 0]) (t := 23) ?hr ?_; (case hd => rfl); (case hg => rfl); (case hr => first | (go_simp; done) | (go_simp; rfl)); intro gb110 hg w3 hbox hb; have n0_ := a0_ (below_step (by repeat (first | (with_reducible first | exact HB.out | apply lA_ | apply lN_ | apply lD_) | exact HB.out)) hb); have n1_ := a0_ (hbox); have n2_ := a0_ ((by rw [hg]; exact (below_size (by repeat (first | (with_reducible first | exact HB.out | apply lA_ | apply lN_ | apply lD_) | exact HB.out))) : w.heap.size ≤ gb110)); have n3_ := a0_ ((by rw [hg]; exact (below_size (by repeat (first | (with_reducible first | exact HB.out | apply lA_ | apply lN_ | apply lD_) | exact HB.out))) : w.heap.size ≤ gb110)); clear HB; have HB := n0_; have BK110 := n1_; have GW110 := n2_; have GE110 := n3_; clear n0_ n1_ n2_ n3_; clear hb hbox hg))
 (try simp only [Act.put, zA_, zB_, zC_])
 go_cut [15] (fun v15 wc => ∃ (kq : Nat) (x15_1 : Bool), v15 = .bool x15_1 ∧ Aside0 (date_Of.j0 kq a0 x15_1 = some (r1, r2, r3, r4)) ∧ Aside0 (kq ≤ k) ∧ Aside0 (wc.heap[gb110]? = some (.cells #[.int .i64 0, .int .i64 0, .int .i64 0] 23 (0, 0))) ∧ Aside0 (Below w.heap.size w wc))
 case first =>
  have H := HC2.out
  clear HC2
  by_cases c4 : a0 < 0
  ·rw [if_pos c4] at H
   have c4b0 : decide (a0 < 0) = true := decide_eq_true c4
   clear c4
   (first | rw [c4b0] | (simp only [i64_w, i32_w]; rw [c4b0]) | skip)
   have H' := a0_ H
   clear H
   go_wp2
   go_meet
   case rel => exact ⟨_, (true), (by first | rfl | (simp; done) | (simp [*]; done)), H', ⟨by first | omega | exact Nat.le_refl _⟩, ⟨by (with_reducible repeat first | apply bN_ | apply bD_ | apply bA_); exact BK110.out⟩, ⟨by repeat (first | (with_reducible first | exact HB.out | apply lA_ | apply lN_ | apply lD_ | refine lS_ ?_ GE110.out) | exact HB.out)⟩⟩
  ·rw [if_neg c4] at H
   have c4b0 : decide (a0 < 0) = false := decide_eq_false c4
   clear c4
   (first | rw [c4b0] | (simp only [i64_w, i32_w]; rw [c4b0]) | skip)
   have H' := a0_ H
   clear H
   go_wp2
   go_meet
   case rel => exact ⟨_, (decide (a0 ≥ 109573)), (by first | rfl | (simp; done) | (simp [*]; done)), H', ⟨by first | omega | exact Nat.le_refl _⟩, ⟨by (with_reducible repeat first | apply bN_ | apply bD_ | apply bA_); exact BK110.out⟩, ⟨by repeat (first | (with_reducible first | exact HB.out | apply lA_ | apply lN_ | apply lD_ | refine lS_ ?_ GE110.out) | exact HB.out)⟩⟩
 case rest =>
  clear HC2
  try clear c4
  try clear c4b0
  obtain ⟨kq, x15_1, rfl, HA, HJ1, BK110, HB⟩ := hcut
  cases kq with
  | zero => exact absurd HA.out (by simp [date_Of.j0])
  | succ kj1 =>
   have H := HA.out
   clear HA
   simp only [date_Of.j0] at H
   by_cases c5 : x15_1 = true
   ·subst c5
    have H1 : (some (0, 0, 0, 30)) = some (r1, r2, r3, r4) := by rw [if_pos rfl] at H; exact H
    clear H
    have H := H1
    clear H1
    simp only [Option.some.injEq, Prod.mk.injEq] at H
    obtain ⟨rfl, rfl, rfl, rfl⟩ := H
    have hcz6_0 : wc.cell? ⟨gb110, 0, none⟩ = some (.int .i64 0) := (bC_ BK110.out 0).trans rfl
    have hcz6_1 : wc.cell? ⟨gb110, 1, none⟩ = some (.int .i64 0) := (bC_ BK110.out 1).trans rfl
    have hcz6_2 : wc.cell? ⟨gb110, 2, none⟩ = some (.int .i64 0) := (bC_ BK110.out 2).trans rfl
    have hfz6_0 := bF_ BK110.out 0
    have hfz6_1 := bF_ BK110.out 1
    have hfz6_2 := bF_ BK110.out 2
    go_wp2
    refine bodyPost_ret (results_ct rfl _ _ gb110 23 #[.int .i64 0, .int .i64 0, .int .i64 0] (0, 0) _ rfl (by (with_reducible repeat first | apply bN_ | apply bD_ | apply bA_); refine blk_put (cs := #[.int .i64 0, .int .i64 0, .int .i64 0]) ?_ 2 _ rfl; (with_reducible repeat first | apply bN_ | apply bD_ | apply bA_); refine blk_put (cs := #[.int .i64 0, .int .i64 0, .int .i64 0]) ?_ 1 _ rfl; (with_reducible repeat first | apply bN_ | apply bD_ | apply bA_); refine blk_put (cs := #[.int .i64 0, .int .i64 0, .int .i64 0]) ?_ 0 _ rfl; (with_reducible repeat first | apply bN_ | apply bD_ | apply bA_); exact BK110.out) Try.underlying23 rfl (by kernel_rfl)) rfl ?_
    exact ⟨by first | rfl | (simp [errW_none, errW_some] <;> rfl) | (simp [*, errW_none, errW_some] <;> rfl), by repeat (first | (with_reducible first | exact HB.out | apply lA_ | apply lN_ | apply lD_ | refine lS_ ?_ GE110.out) | exact HB.out)⟩
   ·replace c5 := Bool.eq_false_iff.mpr c5
    subst c5
    have H1 : (date_Of.l0 kj1 a0 (wrap64 (1900 + (wrap64 (Int.tdiv a0 366)))) 1 1) = some (r1, r2, r3, r4) := by rw [if_neg (show ¬ (false = true) by decide)] at H; exact H
    clear H
    have H := H1
    clear H1
    have HC7 := a0_ H
    clear H
    go_upto_block 0 with (first | ((with_reducible refine gate_dst (N := 4) rfl ?_); refine box_event ?hg (N := 4) ?hd (cs := #[.int .i64 0, .int .i64 0, .int .i64 0]) (t := 23) ?hr ?_; (case hd => rfl); (case hg => rfl); (case hr => first | (go_simp; done) | (go_simp; rfl)); intro gb111 hg w8 hbox hb; have n0_ := a0_ (bB_ (g := gb110) (o := .cells #[.int .i64 0, .int .i64 0, .int .i64 0] 23 (0, 0)) (by (with_reducible repeat first | apply bN_ | apply bD_ | apply bA_); exact BK110.out) hb); have n1_ := a0_ (below_step (by repeat (first | (with_reducible first | exact HB.out | apply lA_ | apply lN_ | apply lD_ | refine lS_ ?_ GE110.out) | exact HB.out)) hb); have n2_ := a0_ (hbox); have n3_ := a0_ ((by rw [hg]; exact (below_size (by repeat (first | (with_reducible first | exact HB.out | apply lA_ | apply lN_ | apply lD_ | refine lS_ ?_ GE110.out) | exact HB.out))) : w.heap.size ≤ gb111)); have n4_ := a0_ ((by rw [hg]; exact (below_size (by repeat (first | (with_reducible first | exact HB.out | apply lA_ | apply lN_ | apply lD_ | refine lS_ ?_ GE110.out) | exact HB.out))) : w.heap.size ≤ gb111)); have n5_ := a0_ ((by rw [hg]; exact Nat.ne_of_lt (blk_lt (g := gb110) (o := .cells #[.int .i64 0, .int .i64 0, .int .i64 0] 23 (0, 0)) (by (with_reducible repeat first | apply bN_ | apply bD_ | apply bA_); exact BK110.out)) : gb110 ≠ gb111)); have n6_ := a0_ ((by rw [hg]; exact Nat.ne_of_gt (blk_lt (g := gb110) (o := .cells #[.int .i64 0, .int .i64 0, .int .i64 0] 23 (0, 0)) (by (with_reducible repeat first | apply bN_ | apply bD_ | apply bA_); exact BK110.out)) : gb111 ≠ gb110)); clear BK110; clear HB; have BK110 := n0_; have HB := n1_; have BK111 := n2_; have GW111 := n3_; have GE111 := n4_; have NB110_111 := n5_; have NB111_110 := n6_; clear n0_ n1_ n2_ n3_ n4_ n5_ n6_; clear hb hbox hg; have hnb9 := NB111_110.out; have hnc9 := NB110_111.out; have hcz10_0 : w8.cell? ⟨gb111, 0, none⟩ = some (.int .i64 0) := (bC_ BK111.out 0).trans rfl; have hcz10_1 : w8.cell? ⟨gb111, 1, none⟩ = some (.int .i64 0) := (bC_ BK111.out 1).trans rfl; have hcz10_2 : w8.cell? ⟨gb111, 2, none⟩ = some (.int .i64 0) := (bC_ BK111.out 2).trans rfl; have hfz10_0 := bF_ BK111.out 0; have hfz10_1 := bF_ BK111.out 1; have hfz10_2 := bF_ BK111.out 2))
    (try simp only [Act.put, zA_, zB_, zC_])
    go_cut [] (fun wc => ∃ (kq : Nat) (x112000_6 : Int), Aside0 (date_Of.j2 kq a0 x112000_6 1 1 = some (r1, r2, r3, r4)) ∧ Aside0 (kq ≤ kj1) ∧ Aside0 (wc.heap[gb110]? = some (.cells #[.int .i64 0, .int .i64 0, .int .i64 0] 23 (0, 0))) ∧ Aside0 (wc.heap[gb111]? = some (.cells #[.int .i64 x112000_6, .int .i64 1, .int .i64 1] 23 (0, 0))) ∧ Aside0 (Below w.heap.size w wc))
    case first =>
     have H := HC7.out
     clear HC7
     have H' := a0_ H
     clear H
     go_wp2
     go_loopg [] kj1 (fun kq w' => ∃ (x112000_2 : Int), Aside0 (date_Of.l0 kq a0 x112000_2 1 1 = some (r1, r2, r3, r4)) ∧ Aside0 (kq ≤ kj1) ∧ Aside0 (w'.heap[gb110]? = some (.cells #[.int .i64 0, .int .i64 0, .int .i64 0] 23 (0, 0))) ∧ Aside0 (w'.heap[gb111]? = some (.cells #[.int .i64 x112000_2, .int .i64 1, .int .i64 1] 23 (0, 0))) ∧ Aside0 (Below w.heap.size w w'))
     case atStart => exact ⟨(wrap64 (1900 + (wrap64 (Int.tdiv a0 366)))), H', ⟨Nat.le_refl _⟩, ⟨by (with_reducible repeat first | apply bN_ | apply bD_ | apply bA_); refine blk_far ?_ NB110_111.out _; (with_reducible repeat first | apply bN_ | apply bD_ | apply bA_); refine blk_far ?_ NB110_111.out _; (with_reducible repeat first | apply bN_ | apply bD_ | apply bA_); refine blk_far ?_ NB110_111.out _; (with_reducible repeat first | apply bN_ | apply bD_ | apply bA_); exact BK110.out⟩, ⟨by (with_reducible repeat first | apply bN_ | apply bD_ | apply bA_); refine blk_put (cs := #[.int .i64 (wrap64 (1900 + (wrap64 (Int.tdiv a0 366)))), .int .i64 1, .int .i64 0]) ?_ 2 _ rfl; (with_reducible repeat first | apply bN_ | apply bD_ | apply bA_); refine blk_put (cs := #[.int .i64 (wrap64 (1900 + (wrap64 (Int.tdiv a0 366)))), .int .i64 0, .int .i64 0]) ?_ 1 _ rfl; (with_reducible repeat first | apply bN_ | apply bD_ | apply bA_); refine blk_put (cs := #[.int .i64 0, .int .i64 0, .int .i64 0]) ?_ 0 _ rfl; (with_reducible repeat first | apply bN_ | apply bD_ | apply bA_); exact BK111.out⟩, ⟨by repeat (first | (with_reducible first | exact HB.out | apply lA_ | apply lN_ | apply lD_ | refine lS_ ?_ GE110.out | refine lS_ ?_ GE111.out) | exact HB.out)⟩⟩
     case round =>
      clear H'
      try clear c4
      try clear c4b0
      try clear c5
      try clear hcz10_0
      try clear hcz10_1
      try clear hcz10_2
      try clear hcz6_0
      try clear hcz6_1
      try clear hcz6_2
      try clear hfz10_0
      try clear hfz10_1
      try clear hfz10_2
      try clear hfz6_0
      try clear hfz6_1
      try clear hfz6_2
      obtain ⟨x112000_2, HA, HK2, BK110, BK111, HB⟩ := hrel
      cases gk with
      | zero => exact absurd HA.out (by simp [date_Of.l0])
      | succ k2 =>
       have H := HA.out
       clear HA
       simp only [date_Of.l0] at H
       by_cases c11 : x112000_2 < 2199
       ·rw [if_pos c11] at H
        have c11b0 : decide (x112000_2 < 2199) = true := decide_eq_true c11
        clear c11
        (first | rw [c11b0] | (simp only [i64_w, i32_w]; rw [c11b0]) | skip)
        replace H := oB_ H
        obtain ⟨⟨t112, t113⟩, A120, H⟩ := H
        replace H : (if t112 > a0 then (date_Of.j2 k2 a0 x112000_2 1 1) else (date_Of.l0 k2 a0 (wrap64 (x112000_2 + 1)) 1 1)) = some (r1, r2, r3, r4) := H
        have A12 := a0_ A120
        clear A120
        by_cases c13 : t112 > a0
        ·rw [if_pos c13] at H
         have c13b0 : decide (a0 < t112) = true := decide_eq_true c13
         clear c13
         have H' := a0_ H
         clear H
         have hnb14 := NB111_110.out
         have hnc14 := NB110_111.out
         have hcz15_0 : wr.cell? ⟨gb111, 0, none⟩ = some (.int .i64 x112000_2) := (bC_ BK111.out 0).trans rfl
         have hcz15_1 : wr.cell? ⟨gb111, 1, none⟩ = some (.int .i64 1) := (bC_ BK111.out 1).trans rfl
         have hcz15_2 : wr.cell? ⟨gb111, 2, none⟩ = some (.int .i64 1) := (bC_ BK111.out 2).trans rfl
         have hfz15_0 := bF_ BK111.out 0
         have hfz15_1 := bF_ BK111.out 1
         have hfz15_2 := bF_ BK111.out 2
         go_wp2_with (first | ((with_reducible refine gate_callee (f := 10) rfl ?_); refine goesL_ (some 29) rfl rfl Try.func10 (by kernel_rfl) rfl #[.agg #[.int .i64 (wrap64 (x112000_2 + 1)), .int .i64 1, .int .i64 1]] rfl (by (try simp only [List.map_toArray, List.map_cons, List.map_nil]); first | done | rfl) ?_; (with_reducible refine (date_Number.calls k2 (wrap64 (x112000_2 + 1)) 1 1 t112 t113 _ A12.out).mono ?_); rintro e w16 ⟨rfl, hb⟩; refine ⟨_, rfl, ?_⟩; have n0_ := a0_ (bB_ (g := gb110) (o := .cells #[.int .i64 0, .int .i64 0, .int .i64 0] 23 (0, 0)) (by (with_reducible repeat first | apply bN_ | apply bD_ | apply bA_); exact BK110.out) hb); have n1_ := a0_ (bB_ (g := gb111) (o := .cells #[.int .i64 x112000_2, .int .i64 1, .int .i64 1] 23 (0, 0)) (by (with_reducible repeat first | apply bN_ | apply bD_ | apply bA_); exact BK111.out) hb); have n2_ := a0_ (below_step (by repeat (first | (with_reducible first | exact HB.out | apply lA_ | apply lN_ | apply lD_ | refine lS_ ?_ GE110.out | refine lS_ ?_ GE111.out) | exact HB.out)) hb); clear BK110; clear BK111; clear HB; have BK110 := n0_; have BK111 := n1_; have HB := n2_; clear n0_ n1_ n2_; (try clear hb); (try clear hb2); (try clear hk); (try clear hi)))
         go_meet
         case rel => exact ⟨_, (x112000_2), H', ⟨by have := HJ1.out; have := HK2.out; first | omega | exact Nat.le_refl _⟩, ⟨by (with_reducible repeat first | apply bN_ | apply bD_ | apply bA_); exact BK110.out⟩, ⟨by (with_reducible repeat first | apply bN_ | apply bD_ | apply bA_); exact BK111.out⟩, ⟨by repeat (first | (with_reducible first | exact HB.out | apply lA_ | apply lN_ | apply lD_ | refine lS_ ?_ GE110.out | refine lS_ ?_ GE111.out) | exact HB.out)⟩⟩
        ·rw [if_neg c13] at H
         have c13b0 : decide (a0 < t112) = false := decide_eq_false c13
         clear c13
         have H' := a0_ H
         clear H
         have hnb17 := NB111_110.out
         have hnc17 := NB110_111.out
         have hcz18_0 : wr.cell? ⟨gb111, 0, none⟩ = some (.int .i64 x112000_2) := (bC_ BK111.out 0).trans rfl
         have hcz18_1 : wr.cell? ⟨gb111, 1, none⟩ = some (.int .i64 1) := (bC_ BK111.out 1).trans rfl
         have hcz18_2 : wr.cell? ⟨gb111, 2, none⟩ = some (.int .i64 1) := (bC_ BK111.out 2).trans rfl
         have hfz18_0 := bF_ BK111.out 0
         have hfz18_1 := bF_ BK111.out 1
         have hfz18_2 := bF_ BK111.out 2
         go_wp2_with (first | ((with_reducible refine gate_callee (f := 10) rfl ?_); refine goesL_ (some 29) rfl rfl Try.func10 (by kernel_rfl) rfl #[.agg #[.int .i64 (wrap64 (x112000_2 + 1)), .int .i64 1, .int .i64 1]] rfl (by (try simp only [List.map_toArray, List.map_cons, List.map_nil]); first | done | rfl) ?_; (with_reducible refine (date_Number.calls k2 (wrap64 (x112000_2 + 1)) 1 1 t112 t113 _ A12.out).mono ?_); rintro e w19 ⟨rfl, hb⟩; refine ⟨_, rfl, ?_⟩; have n0_ := a0_ (bB_ (g := gb110) (o := .cells #[.int .i64 0, .int .i64 0, .int .i64 0] 23 (0, 0)) (by (with_reducible repeat first | apply bN_ | apply bD_ | apply bA_); exact BK110.out) hb); have n1_ := a0_ (bB_ (g := gb111) (o := .cells #[.int .i64 x112000_2, .int .i64 1, .int .i64 1] 23 (0, 0)) (by (with_reducible repeat first | apply bN_ | apply bD_ | apply bA_); exact BK111.out) hb); have n2_ := a0_ (below_step (by repeat (first | (with_reducible first | exact HB.out | apply lA_ | apply lN_ | apply lD_ | refine lS_ ?_ GE110.out | refine lS_ ?_ GE111.out) | exact HB.out)) hb); clear BK110; clear BK111; clear HB; have BK110 := n0_; have BK111 := n1_; have HB := n2_; clear n0_ n1_ n2_; (try clear hb); (try clear hb2); (try clear hk); (try clear hi); have hcz20_0 : w19.cell? ⟨gb111, 0, none⟩ = some (.int .i64 x112000_2) := (bC_ BK111.out 0).trans rfl; have hcz20_1 : w19.cell? ⟨gb111, 1, none⟩ = some (.int .i64 1) := (bC_ BK111.out 1).trans rfl; have hcz20_2 : w19.cell? ⟨gb111, 2, none⟩ = some (.int .i64 1) := (bC_ BK111.out 2).trans rfl; have hfz20_0 := bF_ BK111.out 0; have hfz20_1 := bF_ BK111.out 1; have hfz20_2 := bF_ BK111.out 2))
         go_roundg k2
         case measure => have := HJ1.out; have := HK2.out; omega
         case rel => exact ⟨(wrap64 (x112000_2 + 1)), H', ⟨by have := HJ1.out; have := HK2.out; omega⟩, ⟨by (with_reducible repeat first | apply bN_ | apply bD_ | apply bA_); refine blk_far ?_ NB110_111.out _; (with_reducible repeat first | apply bN_ | apply bD_ | apply bA_); exact BK110.out⟩, ⟨by (with_reducible repeat first | apply bN_ | apply bD_ | apply bA_); refine blk_put (cs := #[.int .i64 x112000_2, .int .i64 1, .int .i64 1]) ?_ 0 _ rfl; (with_reducible repeat first | apply bN_ | apply bD_ | apply bA_); exact BK111.out⟩, ⟨by repeat (first | (with_reducible first | exact HB.out | apply lA_ | apply lN_ | apply lD_ | refine lS_ ?_ GE110.out | refine lS_ ?_ GE111.out) | exact HB.out)⟩⟩
       ·rw [if_neg c11] at H
        have c11b0 : decide (x112000_2 < 2199) = false := decide_eq_false c11
        clear c11
        (first | rw [c11b0] | (simp only [i64_w, i32_w]; rw [c11b0]) | skip)
        have H' := a0_ H
        clear H
        have hnb21 := NB111_110.out
        have hnc21 := NB110_111.out
        have hcz22_0 : wr.cell? ⟨gb111, 0, none⟩ = some (.int .i64 x112000_2) := (bC_ BK111.out 0).trans rfl
        have hcz22_1 : wr.cell? ⟨gb111, 1, none⟩ = some (.int .i64 1) := (bC_ BK111.out 1).trans rfl
        have hcz22_2 : wr.cell? ⟨gb111, 2, none⟩ = some (.int .i64 1) := (bC_ BK111.out 2).trans rfl
        have hfz22_0 := bF_ BK111.out 0
        have hfz22_1 := bF_ BK111.out 1
        have hfz22_2 := bF_ BK111.out 2
        go_wp2
        go_meet
        case rel => exact ⟨_, (x112000_2), H', ⟨by have := HJ1.out; have := HK2.out; first | omega | exact Nat.le_refl _⟩, ⟨by (with_reducible repeat first | apply bN_ | apply bD_ | apply bA_); exact BK110.out⟩, ⟨by (with_reducible repeat first | apply bN_ | apply bD_ | apply bA_); exact BK111.out⟩, ⟨by repeat (first | (with_reducible first | exact HB.out | apply lA_ | apply lN_ | apply lD_ | refine lS_ ?_ GE110.out | refine lS_ ?_ GE111.out) | exact HB.out)⟩⟩
    case rest =>
     clear HC7
     try clear c4
     try clear c4b0
     try clear c5
     try clear c11
     try clear c11b0
     try clear c13
     try clear c13b0
     try clear hcz10_0
     try clear hcz10_1
     try clear hcz10_2
     try clear hcz15_0
     try clear hcz15_1
     try clear hcz15_2
     try clear hcz18_0
     try clear hcz18_1
     try clear hcz18_2
     try clear hcz20_0
     try clear hcz20_1
     try clear hcz20_2
     try clear hcz22_0
     try clear hcz22_1
     try clear hcz22_2
     try clear hcz6_0
     try clear hcz6_1
     try clear hcz6_2
     try clear hfz10_0
     try clear hfz10_1
     try clear hfz10_2
     try clear hfz15_0
     try clear hfz15_1
     try clear hfz15_2
     try clear hfz18_0
     try clear hfz18_1
     try clear hfz18_2
     try clear hfz20_0
     try clear hfz20_1
     try clear hfz20_2
     try clear hfz22_0
     try clear hfz22_1
     try clear hfz22_2
     try clear hfz6_0
     try clear hfz6_1
     try clear hfz6_2
     obtain ⟨kq, x112000_6, HA, HJ6, BK110, BK111, HB⟩ := hcut
     cases kq with
     | zero => exact absurd HA.out (by simp [date_Of.j2])
     | succ kj6 =>
      have H := HA.out
      clear HA
      simp only [date_Of.j2] at H
      replace H := oB_ H
      obtain ⟨⟨t114, t115⟩, A230, H⟩ := H
      replace H : (date_Of.l1 kj6 (wrap64 (a0 - t114)) x112000_6 1 1) = some (r1, r2, r3, r4) := H
      have A23 := a0_ A230
      clear A230
      have H' := a0_ H
      clear H
      have hnb24 := NB111_110.out
      have hnc24 := NB110_111.out
      have hcz25_0 : wc.cell? ⟨gb111, 0, none⟩ = some (.int .i64 x112000_6) := (bC_ BK111.out 0).trans rfl
      have hcz25_1 : wc.cell? ⟨gb111, 1, none⟩ = some (.int .i64 1) := (bC_ BK111.out 1).trans rfl
      have hcz25_2 : wc.cell? ⟨gb111, 2, none⟩ = some (.int .i64 1) := (bC_ BK111.out 2).trans rfl
      have hfz25_0 := bF_ BK111.out 0
      have hfz25_1 := bF_ BK111.out 1
      have hfz25_2 := bF_ BK111.out 2
      go_wp2_with (first | ((with_reducible refine gate_callee (f := 10) rfl ?_); refine goesL_ (some 41) rfl rfl Try.func10 (by kernel_rfl) rfl #[.agg #[.int .i64 x112000_6, .int .i64 1, .int .i64 1]] rfl (by (try simp only [List.map_toArray, List.map_cons, List.map_nil]); first | done | rfl) ?_; (with_reducible refine (date_Number.calls kj6 x112000_6 1 1 t114 t115 _ A23.out).mono ?_); rintro e w26 ⟨rfl, hb⟩; refine ⟨_, rfl, ?_⟩; have n0_ := a0_ (bB_ (g := gb110) (o := .cells #[.int .i64 0, .int .i64 0, .int .i64 0] 23 (0, 0)) (by (with_reducible repeat first | apply bN_ | apply bD_ | apply bA_); exact BK110.out) hb); have n1_ := a0_ (bB_ (g := gb111) (o := .cells #[.int .i64 x112000_6, .int .i64 1, .int .i64 1] 23 (0, 0)) (by (with_reducible repeat first | apply bN_ | apply bD_ | apply bA_); exact BK111.out) hb); have n2_ := a0_ (below_step (by repeat (first | (with_reducible first | exact HB.out | apply lA_ | apply lN_ | apply lD_ | refine lS_ ?_ GE110.out | refine lS_ ?_ GE111.out) | exact HB.out)) hb); clear BK110; clear BK111; clear HB; have BK110 := n0_; have BK111 := n1_; have HB := n2_; clear n0_ n1_ n2_; (try clear hb); (try clear hb2); (try clear hk); (try clear hi)))
      go_loopg [9] kj6 (fun kq v9 w' => ∃ (x9_3 : Int) (x112001_3 : Int), v9 = .int .i64 x9_3 ∧ Aside0 (date_Of.l1 kq x9_3 x112000_6 x112001_3 1 = some (r1, r2, r3, r4)) ∧ Aside0 (kq ≤ kj6) ∧ Aside0 (w'.heap[gb110]? = some (.cells #[.int .i64 0, .int .i64 0, .int .i64 0] 23 (0, 0))) ∧ Aside0 (w'.heap[gb111]? = some (.cells #[.int .i64 x112000_6, .int .i64 x112001_3, .int .i64 1] 23 (0, 0))) ∧ Aside0 (Below w.heap.size w w'))
      case atStart => exact ⟨(wrap64 (a0 - t114)), (1), (by first | rfl | (simp; done) | (simp [*]; done)), H', ⟨Nat.le_refl _⟩, ⟨by (with_reducible repeat first | apply bN_ | apply bD_ | apply bA_); exact BK110.out⟩, ⟨by (with_reducible repeat first | apply bN_ | apply bD_ | apply bA_); exact BK111.out⟩, ⟨by repeat (first | (with_reducible first | exact HB.out | apply lA_ | apply lN_ | apply lD_ | refine lS_ ?_ GE110.out | refine lS_ ?_ GE111.out) | exact HB.out)⟩⟩
      case round =>
       clear H'
       try clear c4
       try clear c4b0
       try clear c5
       try clear c11
       try clear c11b0
       try clear c13
       try clear c13b0
       try clear hcz10_0
       try clear hcz10_1
       try clear hcz10_2
       try clear hcz15_0
       try clear hcz15_1
       try clear hcz15_2
       try clear hcz18_0
       try clear hcz18_1
       try clear hcz18_2
       try clear hcz20_0
       try clear hcz20_1
       try clear hcz20_2
       try clear hcz22_0
       try clear hcz22_1
       try clear hcz22_2
       try clear hcz25_0
       try clear hcz25_1
       try clear hcz25_2
       try clear hcz6_0
       try clear hcz6_1
       try clear hcz6_2
       try clear hfz10_0
       try clear hfz10_1
       try clear hfz10_2
       try clear hfz15_0
       try clear hfz15_1
       try clear hfz15_2
       try clear hfz18_0
       try clear hfz18_1
       try clear hfz18_2
       try clear hfz20_0
       try clear hfz20_1
       try clear hfz20_2
       try clear hfz22_0
       try clear hfz22_1
       try clear hfz22_2
       try clear hfz25_0
       try clear hfz25_1
       try clear hfz25_2
       try clear hfz6_0
       try clear hfz6_1
       try clear hfz6_2
       obtain ⟨x9_3, x112001_3, rfl, HA, HK3, BK110, BK111, HB⟩ := hrel
       cases gk with
       | zero => exact absurd HA.out (by simp [date_Of.l1])
       | succ k3 =>
        have H := HA.out
        clear HA
        simp only [date_Of.l1] at H
        replace H := oB_ H
        obtain ⟨t116, A270, H⟩ := H
        replace H : (if x9_3 ≥ t116 then ((date_Last.f k3 x112000_6 x112001_3).bind fun t117 => (date_Of.l1 k3 (wrap64 (x9_3 - t117)) x112000_6 (wrap64 (x112001_3 + 1)) 1)) else (some (x112000_6, x112001_3, wrap64 (1 + x9_3), 0))) = some (r1, r2, r3, r4) := H
        have A27 := a0_ A270
        clear A270
        by_cases c28 : x9_3 ≥ t116
        ·rw [if_pos c28] at H
         have c28b0 : decide (t116 ≤ x9_3) = true := decide_eq_true c28
         clear c28
         replace H := oB_ H
         obtain ⟨t117, A290, H⟩ := H
         replace H : (date_Of.l1 k3 (wrap64 (x9_3 - t117)) x112000_6 (wrap64 (x112001_3 + 1)) 1) = some (r1, r2, r3, r4) := H
         have A29 := a0_ A290
         clear A290
         have H' := a0_ H
         clear H
         have hnb30 := NB111_110.out
         have hnc30 := NB110_111.out
         have hcz31_0 : wr.cell? ⟨gb111, 0, none⟩ = some (.int .i64 x112000_6) := (bC_ BK111.out 0).trans rfl
         have hcz31_1 : wr.cell? ⟨gb111, 1, none⟩ = some (.int .i64 x112001_3) := (bC_ BK111.out 1).trans rfl
         have hcz31_2 : wr.cell? ⟨gb111, 2, none⟩ = some (.int .i64 1) := (bC_ BK111.out 2).trans rfl
         have hfz31_0 := bF_ BK111.out 0
         have hfz31_1 := bF_ BK111.out 1
         have hfz31_2 := bF_ BK111.out 2
         go_wp2_with (first | ((with_reducible refine gate_callee (f := 48) rfl ?_); refine goesL_ (some 52) rfl rfl Try.func48 (by kernel_rfl) rfl #[.int .i64 x112000_6, .int .i64 x112001_3] rfl (by (try simp only [List.map_toArray, List.map_cons, List.map_nil]); first | done | rfl) ?_; (with_reducible refine (date_Last.calls k3 x112000_6 x112001_3 t116 _ A27.out).mono ?_); rintro e w' ⟨rfl, ⟨nd, rfl⟩⟩; refine ⟨_, rfl, ?_⟩; (try (rw [drewN_self wr]; generalize hq_ : World.drewN wr _ = wr; have n0_ : Aside0 (wr.heap[gb110]? = some (.cells #[.int .i64 0, .int .i64 0, .int .i64 0] 23 (0, 0))) := ⟨by rw [← hq_]; exact (by (with_reducible repeat first | apply bN_ | apply bD_ | apply bA_); exact BK110.out)⟩; have n1_ : Aside0 (wr.heap[gb111]? = some (.cells #[.int .i64 x112000_6, .int .i64 x112001_3, .int .i64 1] 23 (0, 0))) := ⟨by rw [← hq_]; exact (by (with_reducible repeat first | apply bN_ | apply bD_ | apply bA_); exact BK111.out)⟩; have n2_ : Aside0 (Below w.heap.size w wr) := ⟨by rw [← hq_]; exact (by repeat (first | (with_reducible first | exact HB.out | apply lA_ | apply lN_ | apply lD_ | refine lS_ ?_ GE110.out | refine lS_ ?_ GE111.out) | exact HB.out))⟩; clear BK110 BK111 HB hq_; have BK110 := n0_; have BK111 := n1_; have HB := n2_; clear n0_ n1_ n2_; have hqgb110_0 : wr.cell? ⟨gb110, 0, none⟩ = some (.int .i64 0) := (bC_ BK110.out 0).trans rfl; have hzgb110_0 := bF_ BK110.out 0; have hqgb110_1 : wr.cell? ⟨gb110, 1, none⟩ = some (.int .i64 0) := (bC_ BK110.out 1).trans rfl; have hzgb110_1 := bF_ BK110.out 1; have hqgb110_2 : wr.cell? ⟨gb110, 2, none⟩ = some (.int .i64 0) := (bC_ BK110.out 2).trans rfl; have hzgb110_2 := bF_ BK110.out 2; have hqgb111_0 : wr.cell? ⟨gb111, 0, none⟩ = some (.int .i64 x112000_6) := (bC_ BK111.out 0).trans rfl; have hzgb111_0 := bF_ BK111.out 0; have hqgb111_1 : wr.cell? ⟨gb111, 1, none⟩ = some (.int .i64 x112001_3) := (bC_ BK111.out 1).trans rfl; have hzgb111_1 := bF_ BK111.out 1; have hqgb111_2 : wr.cell? ⟨gb111, 2, none⟩ = some (.int .i64 1) := (bC_ BK111.out 2).trans rfl; have hzgb111_2 := bF_ BK111.out 2))) | ((with_reducible refine gate_callee (f := 48) rfl ?_); refine goesL_ (some 59) rfl rfl Try.func48 (by kernel_rfl) rfl #[.int .i64 x112000_6, .int .i64 x112001_3] rfl (by (try simp only [List.map_toArray, List.map_cons, List.map_nil]); first | done | rfl) ?_; (with_reducible refine (date_Last.calls k3 x112000_6 x112001_3 t117 _ A29.out).mono ?_); rintro e w' ⟨rfl, ⟨nd, rfl⟩⟩; refine ⟨_, rfl, ?_⟩; (try (rw [drewN_self wr]; generalize hq_ : World.drewN wr _ = wr; have n0_ : Aside0 (wr.heap[gb110]? = some (.cells #[.int .i64 0, .int .i64 0, .int .i64 0] 23 (0, 0))) := ⟨by rw [← hq_]; exact (by (with_reducible repeat first | apply bN_ | apply bD_ | apply bA_); exact BK110.out)⟩; have n1_ : Aside0 (wr.heap[gb111]? = some (.cells #[.int .i64 x112000_6, .int .i64 x112001_3, .int .i64 1] 23 (0, 0))) := ⟨by rw [← hq_]; exact (by (with_reducible repeat first | apply bN_ | apply bD_ | apply bA_); exact BK111.out)⟩; have n2_ : Aside0 (Below w.heap.size w wr) := ⟨by rw [← hq_]; exact (by repeat (first | (with_reducible first | exact HB.out | apply lA_ | apply lN_ | apply lD_ | refine lS_ ?_ GE110.out | refine lS_ ?_ GE111.out) | exact HB.out))⟩; clear BK110 BK111 HB hq_; have BK110 := n0_; have BK111 := n1_; have HB := n2_; clear n0_ n1_ n2_; have hqgb110_0 : wr.cell? ⟨gb110, 0, none⟩ = some (.int .i64 0) := (bC_ BK110.out 0).trans rfl; have hzgb110_0 := bF_ BK110.out 0; have hqgb110_1 : wr.cell? ⟨gb110, 1, none⟩ = some (.int .i64 0) := (bC_ BK110.out 1).trans rfl; have hzgb110_1 := bF_ BK110.out 1; have hqgb110_2 : wr.cell? ⟨gb110, 2, none⟩ = some (.int .i64 0) := (bC_ BK110.out 2).trans rfl; have hzgb110_2 := bF_ BK110.out 2; have hqgb111_0 : wr.cell? ⟨gb111, 0, none⟩ = some (.int .i64 x112000_6) := (bC_ BK111.out 0).trans rfl; have hzgb111_0 := bF_ BK111.out 0; have hqgb111_1 : wr.cell? ⟨gb111, 1, none⟩ = some (.int .i64 x112001_3) := (bC_ BK111.out 1).trans rfl; have hzgb111_1 := bF_ BK111.out 1; have hqgb111_2 : wr.cell? ⟨gb111, 2, none⟩ = some (.int .i64 1) := (bC_ BK111.out 2).trans rfl; have hzgb111_2 := bF_ BK111.out 2))))
         go_roundg k3
         case measure => have := HJ1.out; have := HJ6.out; have := HK3.out; omega
         case rel => exact ⟨(wrap64 (x9_3 - t117)), (wrap64 (x112001_3 + 1)), (by first | rfl | (simp; done) | (simp [*]; done)), H', ⟨by have := HJ1.out; have := HJ6.out; have := HK3.out; omega⟩, ⟨by (with_reducible repeat first | apply bN_ | apply bD_ | apply bA_); refine blk_far ?_ NB110_111.out _; (with_reducible repeat first | apply bN_ | apply bD_ | apply bA_); exact BK110.out⟩, ⟨by (with_reducible repeat first | apply bN_ | apply bD_ | apply bA_); refine blk_put (cs := #[.int .i64 x112000_6, .int .i64 x112001_3, .int .i64 1]) ?_ 1 _ rfl; (with_reducible repeat first | apply bN_ | apply bD_ | apply bA_); exact BK111.out⟩, ⟨by repeat (first | (with_reducible first | exact HB.out | apply lA_ | apply lN_ | apply lD_ | refine lS_ ?_ GE110.out | refine lS_ ?_ GE111.out) | exact HB.out)⟩⟩
        ·rw [if_neg c28] at H
         have c28b0 : decide (t116 ≤ x9_3) = false := decide_eq_false c28
         clear c28
         simp only [Option.some.injEq, Prod.mk.injEq] at H
         obtain ⟨rfl, rfl, rfl, rfl⟩ := H
         have hnb32 := NB111_110.out
         have hnc32 := NB110_111.out
         have hcz33_0 : wr.cell? ⟨gb111, 0, none⟩ = some (.int .i64 x112000_6) := (bC_ BK111.out 0).trans rfl
         have hcz33_1 : wr.cell? ⟨gb111, 1, none⟩ = some (.int .i64 x112001_3) := (bC_ BK111.out 1).trans rfl
         have hcz33_2 : wr.cell? ⟨gb111, 2, none⟩ = some (.int .i64 1) := (bC_ BK111.out 2).trans rfl
         have hfz33_0 := bF_ BK111.out 0
         have hfz33_1 := bF_ BK111.out 1
         have hfz33_2 := bF_ BK111.out 2
         go_wp2_with (first | ((with_reducible refine gate_callee (f := 48) rfl ?_); refine goesL_ (some 52) rfl rfl Try.func48 (by kernel_rfl) rfl #[.int .i64 x112000_6, .int .i64 x112001_3] rfl (by (try simp only [List.map_toArray, List.map_cons, List.map_nil]); first | done | rfl) ?_; (with_reducible refine (date_Last.calls k3 x112000_6 x112001_3 t116 _ A27.out).mono ?_); rintro e w' ⟨rfl, ⟨nd, rfl⟩⟩; refine ⟨_, rfl, ?_⟩; (try (rw [drewN_self wr]; generalize hq_ : World.drewN wr _ = wr; have n0_ : Aside0 (wr.heap[gb110]? = some (.cells #[.int .i64 0, .int .i64 0, .int .i64 0] 23 (0, 0))) := ⟨by rw [← hq_]; exact (by (with_reducible repeat first | apply bN_ | apply bD_ | apply bA_); exact BK110.out)⟩; have n1_ : Aside0 (wr.heap[gb111]? = some (.cells #[.int .i64 x112000_6, .int .i64 x112001_3, .int .i64 1] 23 (0, 0))) := ⟨by rw [← hq_]; exact (by (with_reducible repeat first | apply bN_ | apply bD_ | apply bA_); exact BK111.out)⟩; have n2_ : Aside0 (Below w.heap.size w wr) := ⟨by rw [← hq_]; exact (by repeat (first | (with_reducible first | exact HB.out | apply lA_ | apply lN_ | apply lD_ | refine lS_ ?_ GE110.out | refine lS_ ?_ GE111.out) | exact HB.out))⟩; clear BK110 BK111 HB hq_; have BK110 := n0_; have BK111 := n1_; have HB := n2_; clear n0_ n1_ n2_; have hqgb110_0 : wr.cell? ⟨gb110, 0, none⟩ = some (.int .i64 0) := (bC_ BK110.out 0).trans rfl; have hzgb110_0 := bF_ BK110.out 0; have hqgb110_1 : wr.cell? ⟨gb110, 1, none⟩ = some (.int .i64 0) := (bC_ BK110.out 1).trans rfl; have hzgb110_1 := bF_ BK110.out 1; have hqgb110_2 : wr.cell? ⟨gb110, 2, none⟩ = some (.int .i64 0) := (bC_ BK110.out 2).trans rfl; have hzgb110_2 := bF_ BK110.out 2; have hqgb111_0 : wr.cell? ⟨gb111, 0, none⟩ = some (.int .i64 x112000_6) := (bC_ BK111.out 0).trans rfl; have hzgb111_0 := bF_ BK111.out 0; have hqgb111_1 : wr.cell? ⟨gb111, 1, none⟩ = some (.int .i64 x112001_3) := (bC_ BK111.out 1).trans rfl; have hzgb111_1 := bF_ BK111.out 1; have hqgb111_2 : wr.cell? ⟨gb111, 2, none⟩ = some (.int .i64 1) := (bC_ BK111.out 2).trans rfl; have hzgb111_2 := bF_ BK111.out 2)); have hcz34_0 : wr.cell? ⟨gb110, 0, none⟩ = some (.int .i64 0) := (bC_ BK110.out 0).trans rfl; have hcz34_1 : wr.cell? ⟨gb110, 1, none⟩ = some (.int .i64 0) := (bC_ BK110.out 1).trans rfl; have hcz34_2 : wr.cell? ⟨gb110, 2, none⟩ = some (.int .i64 0) := (bC_ BK110.out 2).trans rfl; have hfz34_0 := bF_ BK110.out 0; have hfz34_1 := bF_ BK110.out 1; have hfz34_2 := bF_ BK110.out 2))
         refine bodyPost_ret (results_ct rfl _ _ gb110 23 #[.int .i64 x112000_6, .int .i64 x112001_3, .int .i64 (wrap64 (1 + x9_3))] (0, 0) _ rfl (by (with_reducible repeat first | apply bN_ | apply bD_ | apply bA_); refine blk_put (cs := #[.int .i64 x112000_6, .int .i64 x112001_3, .int .i64 0]) ?_ 2 _ rfl; (with_reducible repeat first | apply bN_ | apply bD_ | apply bA_); refine blk_put (cs := #[.int .i64 x112000_6, .int .i64 0, .int .i64 0]) ?_ 1 _ rfl; (with_reducible repeat first | apply bN_ | apply bD_ | apply bA_); refine blk_put (cs := #[.int .i64 0, .int .i64 0, .int .i64 0]) ?_ 0 _ rfl; (with_reducible repeat first | apply bN_ | apply bD_ | apply bA_); refine blk_far ?_ NB110_111.out _; (with_reducible repeat first | apply bN_ | apply bD_ | apply bA_); exact BK110.out) Try.underlying23 rfl (by kernel_rfl)) rfl ?_
         exact ⟨by first | rfl | (simp [errW_none, errW_some] <;> rfl) | (simp [*, errW_none, errW_some] <;> rfl), by repeat (first | (with_reducible first | exact HB.out | apply lA_ | apply lN_ | apply lD_ | refine lS_ ?_ GE110.out | refine lS_ ?_ GE111.out) | exact HB.out)⟩

end Go.Proofs.Ytojinnnckfimhaa.X
