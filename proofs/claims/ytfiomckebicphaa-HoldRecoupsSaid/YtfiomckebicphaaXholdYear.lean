-- laid by the session's own program (xprint.py) out of Lean's print of the program; Lean checks it
import Derived.Test.YtfiomckebicphaaX0
import Derived.Test.YtfiomckebicphaaXholdStep
namespace Go.Proofs.Ytfiomckebicphaa.X
open Go.RowKit Go.Proofs.YtfiomckebicphaaW.PrintWords Go.Proofs.YtfiomckebicphaaW.PrintLast Go.Proofs.YtfiomckebicphaaW.PrintMore
attribute [local go_sem] max2_int min2_int max_two min_two max_three min_three max_four min_four   -- for this text's walks alone
set_option linter.unusedVariables false
set_option linter.unusedSimpArgs false

/-! ### hold_Year: function 28 -/
def hold_Year.l0 : Nat → List Int → List (S49) → Int → Int → List (List (S30)) → List (S130) → List (S132) → Int → Int → Int → Int → Option (List Int × Int × Int × Int)
  | 0, _, _, _, _, _, _, _, _, _, _, _ => none
  | k + 1, x8, x14, x15, x16, x267000, x267001, x267002, x267003, x267004, x269000, x269001 => if x16 < x15 then (if 0 ≤ x16 then (if x16 < (x14.length : Int) then ((hold_Step.f k x267000 x267001 x267002 x267003 x267004 x269000 x269001 ((rd_T49 x14 x16).f0) ((rd_T49 x14 x16).f1) ((rd_T49 x14 x16).f2)).bind fun bt271 => (if bt271.2.2.2 = 0 then (if x8.length < 17592186044416 then (hold_Year.l0 k (x8 ++ [bt271.1]) x14 x15 (wrap64 (x16 + 1)) x267000 x267001 x267002 x267003 x267004 bt271.2.1 bt271.2.2.1) else (none)) else (some (([] : List Int), 0, 0, bt271.2.2.2)))) else (none)) else (none)) else (some (x8, x269000, x269001, 0))
def hold_Year.f (k : Nat) (l0_0 : List (List (S30))) (l0_1 : List (S130)) (l0_2 : List (S132)) (a0_3 : Int) (a0_4 : Int) (l1 : List (S49)) : Option (List Int × Int × Int × Int) := hold_Year.l0 k ([] : List Int) l1 (l1.length : Int) 0 l0_0 l0_1 l0_2 a0_3 a0_4 0 0
theorem hold_Year.mono_l : ∀ k, (∀ y0 y1 y2 y3 y4 y5 y6 y7 y8 y9 y10, LeO (hold_Year.l0 k y0 y1 y2 y3 y4 y5 y6 y7 y8 y9 y10) (hold_Year.l0 (k + 1) y0 y1 y2 y3 y4 y5 y6 y7 y8 y9 y10))
  | 0 => fun _ _ _ _ _ _ _ _ _ _ _ r h => by simp [hold_Year.l0] at h
  | k + 1 => by
    have ih0 := hold_Year.mono_l k
    · intro y0 y1 y2 y3 y4 y5 y6 y7 y8 y9 y10
      unfold hold_Year.l0
      repeat' first
      | (with_reducible exact ih0 _ _ _ _ _ _ _ _ _ _ _)
      | (with_reducible exact hold_Step.mono _ _ _ _ _ _ _ _ _ _ _)
      | (with_reducible exact LeO.refl _)
      | (with_reducible exact LeO.none _)
      | (with_reducible refine LeO.ite ?_ ?_)
      | (with_reducible refine LeO.bind ?_ (fun _ => ?_))
      | exact ih0 _ _ _ _ _ _ _ _ _ _ _
      | exact hold_Step.mono _ _ _ _ _ _ _ _ _ _ _
      | exact LeO.none _
      | refine LeO.ite ?_ ?_
      | refine LeO.bind ?_ (fun _ => ?_)
theorem hold_Year.mono : ∀ a0 a1 a2 a3 a4 a5 k, LeO (hold_Year.f k a0 a1 a2 a3 a4 a5) (hold_Year.f (k + 1) a0 a1 a2 a3 a4 a5) := by
  intro a0 a1 a2 a3 a4 a5 k
  have ih0 := hold_Year.mono_l k
  unfold hold_Year.f
  repeat' first
      | (with_reducible exact ih0 _ _ _ _ _ _ _ _ _ _ _)
      | (with_reducible exact hold_Step.mono _ _ _ _ _ _ _ _ _ _ _)
      | (with_reducible exact LeO.refl _)
      | (with_reducible exact LeO.none _)
      | (with_reducible refine LeO.ite ?_ ?_)
      | (with_reducible refine LeO.bind ?_ (fun _ => ?_))
      | exact ih0 _ _ _ _ _ _ _ _ _ _ _
      | exact hold_Step.mono _ _ _ _ _ _ _ _ _ _ _
      | exact LeO.none _
      | refine LeO.ite ?_ ?_
      | refine LeO.bind ?_ (fun _ => ?_)
set_option maxHeartbeats 8000000 in
set_option maxRecDepth 100000 in
theorem hold_Year.calls (k : Nat) (A0_0 : Option Addr) (c0_0 : Nat) (l0_0 : List (List (S30))) (A0_1 : Option Addr) (c0_1 : Nat) (l0_1 : List (S130)) (A0_2 : Option Addr) (c0_2 : Nat) (l0_2 : List (S132)) (a0_3 : Int) (a0_4 : Int) (A1 : Option Addr) (c1 : Nat) (l1 : List (S49)) (r1 : List Int) (r2 : Int) (r3 : Int) (r4 : Int) (w : World) (hr0_0 : Kd.C (Kd.slice 30 k30) w A0_0 l0_0.length l0_0) (hc0_0 : l0_0.length ≤ c0_0) (hr0_1 : Kd.C k130 w A0_1 l0_1.length l0_1) (hc0_1 : l0_1.length ≤ c0_1) (hr0_2 : Kd.C k132 w A0_2 l0_2.length l0_2) (hc0_2 : l0_2.length ≤ c0_2) (hr1 : Kd.C k49 w A1 l1.length l1) (hc1 : l1.length ≤ c1) (h : hold_Year.f k l0_0 l0_1 l0_2 a0_3 a0_4 l1 = some (r1, r2, r3, r4)) :
    Calls Try.prog 28 #[.agg #[.slice A0_0 l0_0.length c0_0, .slice A0_1 l0_1.length c0_1, .slice A0_2 l0_2.length c0_2, .int .i64 a0_3, .int .i64 a0_4], .slice A1 l1.length c1] w fun e w' => ∃ v0_ : Value, e = .returned (.tuple #[v0_, .agg #[.int .i64 r2, .int .i64 r3], .int .i64 r4]) ∧ Kd.R (Kd.int .i64) 2 w' w.heap.size (fun _ => True) v0_ r1 ∧ Below w.heap.size w w' := by
  have hu55 := Try.underlying55
  have hu47 := Try.underlying47
  have hu49 := Try.underlying49
  have HR0_0 := Aside0.mk hr0_0
  have HC0_0 := Aside0.mk hc0_0
  clear hr0_0 hc0_0
  have HR0_1 := Aside0.mk hr0_1
  have HC0_1 := Aside0.mk hc0_1
  clear hr0_1 hc0_1
  have HR0_2 := Aside0.mk hr0_2
  have HC0_2 := Aside0.mk hc0_2
  clear hr0_2 hc0_2
  have HR1 := Aside0.mk hr1
  have HC1 := Aside0.mk hc1
  clear hr1 hc1
  have HB := Aside0.mk (Below.refl w.heap.size w)
  have H : (hold_Year.l0 k ([] : List Int) l1 (l1.length : Int) 0 l0_0 l0_1 l0_2 a0_3 a0_4 0 0) = some (r1, r2, r3, r4) := h
  clear h
  have H' := Aside0.mk H
  clear H
  go_enter Try.func28, Try.ntmps28
  go_wp2_with (first | ((with_reducible refine gate_dst (N := 2) rfl ?_); refine box_event ?hg (N := 2) ?hd (cs := #[.slice A0_0 l0_0.length c0_0, .slice A0_1 l0_1.length c0_1, .slice A0_2 l0_2.length c0_2, .int .i64 a0_3, .int .i64 a0_4]) (t := 55) ?hr ?_; (case hd => rfl); (case hg => rfl); (case hr => first | (go_simp; done) | (go_simp; rfl)); intro gb266 hg w3 hbox hb; have n0_ := Aside0.mk (below_step (by repeat (first | (with_reducible first | exact HB.out | apply below_alloc | apply pw_below_drewN | apply below_drew1) | exact HB.out)) hb); have n1_ := Aside0.mk (hbox); have n2_ := Aside0.mk ((by rw [hg]; exact (below_size (by repeat (first | (with_reducible first | exact HB.out | apply below_alloc | apply pw_below_drewN | apply below_drew1) | exact HB.out))) : w.heap.size ≤ gb266)); have n3_ := Aside0.mk ((by rw [hg]; exact (below_size (by repeat (first | (with_reducible first | exact HB.out | apply below_alloc | apply pw_below_drewN | apply below_drew1) | exact HB.out))) : w.heap.size ≤ gb266)); clear HB; have HB := n0_; have BK266 := n1_; have GW266 := n2_; have GE266 := n3_; clear n0_ n1_ n2_ n3_; clear hb hbox hg) | ((with_reducible refine gate_dst (N := 5) rfl ?_); refine box_event ?hg (N := 5) ?hd (cs := #[.int .i64 0, .int .i64 0]) (t := 47) ?hr ?_; (case hd => rfl); (case hg => rfl); (case hr => first | (go_simp; done) | (go_simp; rfl)); intro gb267 hg w4 hbox hb; have n0_ := Aside0.mk (blk_below (g := gb266) (o := .cells #[.slice A0_0 l0_0.length c0_0, .slice A0_1 l0_1.length c0_1, .slice A0_2 l0_2.length c0_2, .int .i64 a0_3, .int .i64 a0_4] 55 (0, 0)) (by (with_reducible repeat (first | refine blk_drewN ?_ _ | refine blk_drew ?_ | refine blk_alloc ?_ _)); exact BK266.out) hb); have n1_ := Aside0.mk (below_step (by repeat (first | (with_reducible first | exact HB.out | apply below_alloc | apply pw_below_drewN | apply below_drew1 | refine below_set ?_ GE266.out) | exact HB.out)) hb); have n2_ := Aside0.mk (hbox); have n3_ := Aside0.mk ((by rw [hg]; exact (below_size (by repeat (first | (with_reducible first | exact HB.out | apply below_alloc | apply pw_below_drewN | apply below_drew1 | refine below_set ?_ GE266.out) | exact HB.out))) : w.heap.size ≤ gb267)); have n4_ := Aside0.mk ((by rw [hg]; exact (below_size (by repeat (first | (with_reducible first | exact HB.out | apply below_alloc | apply pw_below_drewN | apply below_drew1 | refine below_set ?_ GE266.out) | exact HB.out))) : w.heap.size ≤ gb267)); have n5_ := Aside0.mk ((by rw [hg]; exact Nat.ne_of_lt (blk_lt (g := gb266) (o := .cells #[.slice A0_0 l0_0.length c0_0, .slice A0_1 l0_1.length c0_1, .slice A0_2 l0_2.length c0_2, .int .i64 a0_3, .int .i64 a0_4] 55 (0, 0)) (by (with_reducible repeat (first | refine blk_drewN ?_ _ | refine blk_drew ?_ | refine blk_alloc ?_ _)); exact BK266.out)) : gb266 ≠ gb267)); have n6_ := Aside0.mk ((by rw [hg]; exact Nat.ne_of_gt (blk_lt (g := gb266) (o := .cells #[.slice A0_0 l0_0.length c0_0, .slice A0_1 l0_1.length c0_1, .slice A0_2 l0_2.length c0_2, .int .i64 a0_3, .int .i64 a0_4] 55 (0, 0)) (by (with_reducible repeat (first | refine blk_drewN ?_ _ | refine blk_drew ?_ | refine blk_alloc ?_ _)); exact BK266.out)) : gb267 ≠ gb266)); clear BK266; clear HB; have BK266 := n0_; have HB := n1_; have BK267 := n2_; have GW267 := n3_; have GE267 := n4_; have NB266_267 := n5_; have NB267_266 := n6_; clear n0_ n1_ n2_ n3_ n4_ n5_ n6_; clear hb hbox hg) | ((with_reducible refine gate_dst (N := 7) rfl ?_); refine box_event ?hg (N := 7) ?hd (cs := #[.int .i64 0, .int .i64 0]) (t := 47) ?hr ?_; (case hd => rfl); (case hg => rfl); (case hr => first | (go_simp; done) | (go_simp; rfl)); intro gb268 hg w5 hbox hb; have n0_ := Aside0.mk (blk_below (g := gb266) (o := .cells #[.slice A0_0 l0_0.length c0_0, .slice A0_1 l0_1.length c0_1, .slice A0_2 l0_2.length c0_2, .int .i64 a0_3, .int .i64 a0_4] 55 (0, 0)) (by (with_reducible repeat (first | refine blk_drewN ?_ _ | refine blk_drew ?_ | refine blk_alloc ?_ _)); exact BK266.out) hb); have n1_ := Aside0.mk (blk_below (g := gb267) (o := .cells #[.int .i64 0, .int .i64 0] 47 (0, 0)) (by (with_reducible repeat (first | refine blk_drewN ?_ _ | refine blk_drew ?_ | refine blk_alloc ?_ _)); exact BK267.out) hb); have n2_ := Aside0.mk (below_step (by repeat (first | (with_reducible first | exact HB.out | apply below_alloc | apply pw_below_drewN | apply below_drew1 | refine below_set ?_ GE266.out | refine below_set ?_ GE267.out) | exact HB.out)) hb); have n3_ := Aside0.mk (hbox); have n4_ := Aside0.mk ((by rw [hg]; exact (below_size (by repeat (first | (with_reducible first | exact HB.out | apply below_alloc | apply pw_below_drewN | apply below_drew1 | refine below_set ?_ GE266.out | refine below_set ?_ GE267.out) | exact HB.out))) : w.heap.size ≤ gb268)); have n5_ := Aside0.mk ((by rw [hg]; exact (below_size (by repeat (first | (with_reducible first | exact HB.out | apply below_alloc | apply pw_below_drewN | apply below_drew1 | refine below_set ?_ GE266.out | refine below_set ?_ GE267.out) | exact HB.out))) : w.heap.size ≤ gb268)); have n6_ := Aside0.mk ((by rw [hg]; exact Nat.ne_of_lt (blk_lt (g := gb266) (o := .cells #[.slice A0_0 l0_0.length c0_0, .slice A0_1 l0_1.length c0_1, .slice A0_2 l0_2.length c0_2, .int .i64 a0_3, .int .i64 a0_4] 55 (0, 0)) (by (with_reducible repeat (first | refine blk_drewN ?_ _ | refine blk_drew ?_ | refine blk_alloc ?_ _)); exact BK266.out)) : gb266 ≠ gb268)); have n7_ := Aside0.mk ((by rw [hg]; exact Nat.ne_of_gt (blk_lt (g := gb266) (o := .cells #[.slice A0_0 l0_0.length c0_0, .slice A0_1 l0_1.length c0_1, .slice A0_2 l0_2.length c0_2, .int .i64 a0_3, .int .i64 a0_4] 55 (0, 0)) (by (with_reducible repeat (first | refine blk_drewN ?_ _ | refine blk_drew ?_ | refine blk_alloc ?_ _)); exact BK266.out)) : gb268 ≠ gb266)); have n8_ := Aside0.mk ((by rw [hg]; exact Nat.ne_of_lt (blk_lt (g := gb267) (o := .cells #[.int .i64 0, .int .i64 0] 47 (0, 0)) (by (with_reducible repeat (first | refine blk_drewN ?_ _ | refine blk_drew ?_ | refine blk_alloc ?_ _)); exact BK267.out)) : gb267 ≠ gb268)); have n9_ := Aside0.mk ((by rw [hg]; exact Nat.ne_of_gt (blk_lt (g := gb267) (o := .cells #[.int .i64 0, .int .i64 0] 47 (0, 0)) (by (with_reducible repeat (first | refine blk_drewN ?_ _ | refine blk_drew ?_ | refine blk_alloc ?_ _)); exact BK267.out)) : gb268 ≠ gb267)); clear BK266; clear BK267; clear HB; have BK266 := n0_; have BK267 := n1_; have HB := n2_; have BK268 := n3_; have GW268 := n4_; have GE268 := n5_; have NB266_268 := n6_; have NB268_266 := n7_; have NB267_268 := n8_; have NB268_267 := n9_; clear n0_ n1_ n2_ n3_ n4_ n5_ n6_ n7_ n8_ n9_; clear hb hbox hg))
  go_loopg [8, 16] k (fun kq v8 v16 w' => ∃ (x8_1 : List Int) (x16_1 : Int) (x268000_1 : Int) (x268001_1 : Int) (x269000_1 : Int) (x269001_1 : Int), v16 = .int .i64 x16_1 ∧ Aside0 (hold_Year.l0 kq x8_1 l1 (l1.length : Int) x16_1 l0_0 l0_1 l0_2 a0_3 a0_4 x269000_1 x269001_1 = some (r1, r2, r3, r4)) ∧ Aside0 (kq ≤ k) ∧ Aside0 (Kd.R (Kd.int .i64) 2 w' w.heap.size (fun _ => True) v8 x8_1) ∧ Aside0 (w'.heap[gb266]? = some (.cells #[(.slice A0_0 l0_0.length c0_0), (.slice A0_1 l0_1.length c0_1), (.slice A0_2 l0_2.length c0_2), .int .i64 a0_3, .int .i64 a0_4] 55 (0, 0))) ∧ Aside0 (w'.heap[gb267]? = some (.cells #[.int .i64 x268000_1, .int .i64 x268001_1] 47 (0, 0))) ∧ Aside0 (w'.heap[gb268]? = some (.cells #[.int .i64 x269000_1, .int .i64 x269001_1] 47 (0, 0))) ∧ Aside0 (Below w.heap.size w w'))
  case atStart => exact ⟨(([] : List Int)), (0), (0), (0), (0), (0), (by first | rfl | (simp; done) | (simp [*]; done)), H', ⟨Nat.le_refl _⟩, ⟨by first | exact Kd.R_nil _ _ _ _ _ | exact Kd.N_nil _ _ _ _ _ | exact Kd.V_nil _ _ _ _ _ | exact Kd.Q_nil _ _ _ _ _ | exact Kd.S_nil _ _ _ _ _⟩, ⟨by (with_reducible repeat (first | refine blk_drewN ?_ _ | refine blk_drew ?_ | refine blk_alloc ?_ _)); exact BK266.out⟩, ⟨by (with_reducible repeat (first | refine blk_drewN ?_ _ | refine blk_drew ?_ | refine blk_alloc ?_ _)); exact BK267.out⟩, ⟨by (with_reducible repeat (first | refine blk_drewN ?_ _ | refine blk_drew ?_ | refine blk_alloc ?_ _)); exact BK268.out⟩, ⟨by repeat (first | (with_reducible first | exact HB.out | apply below_alloc | apply pw_below_drewN | apply below_drew1 | refine below_set ?_ GE266.out | refine below_set ?_ GE267.out | refine below_set ?_ GE268.out) | exact HB.out)⟩⟩
  case round =>
    clear H'
    try clear c1
    try clear c2
    try clear p2
    obtain ⟨x8_1, x16_1, x268000_1, x268001_1, x269000_1, x269001_1, rfl, HA, HK1, HO_8, BK266, BK267, BK268, HB⟩ := hrel
    cases gk with
    | zero => exact absurd HA.out (by simp [hold_Year.l0])
    | succ k1 =>
      have H := HA.out
      clear HA
      simp only [hold_Year.l0] at H
      by_cases c6 : x16_1 < (l1.length : Int)
      · rw [if_pos c6] at H
        have c6b0 : decide (x16_1 < (l1.length : Int)) = true := decide_eq_true c6
        clear c6
        by_cases c7 : 0 ≤ x16_1
        · rw [if_pos c7] at H
          have c7b0 : decide (0 ≤ x16_1) = true := decide_eq_true c7
          clear c7
          by_cases c8 : x16_1 < (l1.length : Int)
          · rw [if_pos c8] at H
            have c8b0 : decide (x16_1 < (l1.length : Int)) = true := decide_eq_true c8
            clear c8
            replace H := Option.bind_eq_some_iff.mp H
            obtain ⟨⟨t271, t272, t273, t274⟩, A90, H⟩ := H
            replace H : (if t274 = 0 then (if x8_1.length < 17592186044416 then (hold_Year.l0 k1 (x8_1 ++ [t271]) l1 (l1.length : Int) (wrap64 (x16_1 + 1)) l0_0 l0_1 l0_2 a0_3 a0_4 t272 t273) else (none)) else (some (([] : List Int), 0, 0, t274))) = some (r1, r2, r3, r4) := H
            have A9 := Aside0.mk A90
            clear A90
            by_cases c10 : t274 = 0
            · rw [if_pos c10] at H
              have c10b0 : (t274 == 0) = true := beq_iff_eq.mpr c10
              have c10b1 : (t274 != 0) = false := bne_eq_false_iff_eq.mpr c10
              clear c10
              by_cases c11 : x8_1.length < 17592186044416
              · rw [if_pos c11] at H
                have LMc11 := Aside0.mk c11
                clear c11
                obtain ⟨y276, hy276⟩ : ∃ y_ : List Int, y_ = (x8_1 ++ [t271]) := ⟨_, rfl⟩
                replace H : (hold_Year.l0 k1 y276 l1 (l1.length : Int) (wrap64 (x16_1 + 1)) l0_0 l0_1 l0_2 a0_3 a0_4 t272 t273) = some (r1, r2, r3, r4) := by first | (rw [hy276]; with_reducible exact H) | (have H2_ := (Option.bind_some _ _).symm.trans H; rw [hy276]; with_reducible exact H2_) | (have H2_ := (Option.bind_some _ _).symm.trans H; with_reducible exact H2_) | with_reducible exact H | (rw [hy276]; exact H) | exact H
                have Ny276 := Aside0.mk hy276
                clear hy276
                have H' := Aside0.mk H
                clear H
                have p269 : 0 ≤ (x16_1 : Int) := of_decide_eq_true (by first | (with_reducible assumption) | assumption)
                have q269 : x16_1 < (l1.length : Int) := of_decide_eq_true (by first | (with_reducible assumption) | assumption)
                obtain ⟨ad269, e269, hx269_0, hx269_1, hx269_2⟩ := at_T49 HR1.out x16_1 p269 q269
                cases e269
                replace hx269_0 := (HB.out.cell (World.block_lt_of_cell? w _ hx269_0)).trans hx269_0
                replace hx269_1 := (HB.out.cell (World.block_lt_of_cell? w _ hx269_1)).trans hx269_1
                replace hx269_2 := (HB.out.cell (World.block_lt_of_cell? w _ hx269_2)).trans hx269_2
                replace p269 := eq_true p269
                replace q269 := eq_true q269
                try go_wp2_with (first | ((with_reducible refine gate_dst (N := 10) rfl ?_); refine box_event ?hg (N := 10) ?hd (cs := #[.int .i64 0, .int .i64 0, .bool false]) (t := 49) ?hr ?_; (case hd => rfl); (case hg => rfl); (case hr => first | (go_simp; done) | (go_simp; rfl)); intro gb270 hg w12 hbox hb; have n0_ := Aside0.mk (Kd.R_below (by (with_reducible repeat (first | apply Kd.R_alloc | apply Kd.R_drewN | apply Kd.R_drew)); exact HO_8.out) hb); have n1_ := Aside0.mk (blk_below (g := gb266) (o := .cells #[.slice A0_0 l0_0.length c0_0, .slice A0_1 l0_1.length c0_1, .slice A0_2 l0_2.length c0_2, .int .i64 a0_3, .int .i64 a0_4] 55 (0, 0)) (by (with_reducible repeat (first | refine blk_drewN ?_ _ | refine blk_drew ?_ | refine blk_alloc ?_ _)); exact BK266.out) hb); have n2_ := Aside0.mk (blk_below (g := gb267) (o := .cells #[.int .i64 x268000_1, .int .i64 x268001_1] 47 (0, 0)) (by (with_reducible repeat (first | refine blk_drewN ?_ _ | refine blk_drew ?_ | refine blk_alloc ?_ _)); exact BK267.out) hb); have n3_ := Aside0.mk (blk_below (g := gb268) (o := .cells #[.int .i64 x269000_1, .int .i64 x269001_1] 47 (0, 0)) (by (with_reducible repeat (first | refine blk_drewN ?_ _ | refine blk_drew ?_ | refine blk_alloc ?_ _)); exact BK268.out) hb); have n4_ := Aside0.mk (below_step (by repeat (first | (with_reducible first | exact HB.out | apply below_alloc | apply pw_below_drewN | apply below_drew1 | refine below_set ?_ GE266.out | refine below_set ?_ GE267.out | refine below_set ?_ GE268.out) | exact HB.out)) hb); have n5_ := Aside0.mk (hbox); have n6_ := Aside0.mk ((by rw [hg]; exact (below_size (by repeat (first | (with_reducible first | exact HB.out | apply below_alloc | apply pw_below_drewN | apply below_drew1 | refine below_set ?_ GE266.out | refine below_set ?_ GE267.out | refine below_set ?_ GE268.out) | exact HB.out))) : w.heap.size ≤ gb270)); have n7_ := Aside0.mk ((by rw [hg]; exact (below_size (by repeat (first | (with_reducible first | exact HB.out | apply below_alloc | apply pw_below_drewN | apply below_drew1 | refine below_set ?_ GE266.out | refine below_set ?_ GE267.out | refine below_set ?_ GE268.out) | exact HB.out))) : w.heap.size ≤ gb270)); have n8_ := Aside0.mk ((by rw [hg]; exact Nat.ne_of_lt (blk_lt (g := gb266) (o := .cells #[.slice A0_0 l0_0.length c0_0, .slice A0_1 l0_1.length c0_1, .slice A0_2 l0_2.length c0_2, .int .i64 a0_3, .int .i64 a0_4] 55 (0, 0)) (by (with_reducible repeat (first | refine blk_drewN ?_ _ | refine blk_drew ?_ | refine blk_alloc ?_ _)); exact BK266.out)) : gb266 ≠ gb270)); have n9_ := Aside0.mk ((by rw [hg]; exact Nat.ne_of_gt (blk_lt (g := gb266) (o := .cells #[.slice A0_0 l0_0.length c0_0, .slice A0_1 l0_1.length c0_1, .slice A0_2 l0_2.length c0_2, .int .i64 a0_3, .int .i64 a0_4] 55 (0, 0)) (by (with_reducible repeat (first | refine blk_drewN ?_ _ | refine blk_drew ?_ | refine blk_alloc ?_ _)); exact BK266.out)) : gb270 ≠ gb266)); have n10_ := Aside0.mk ((by rw [hg]; exact Nat.ne_of_lt (blk_lt (g := gb267) (o := .cells #[.int .i64 x268000_1, .int .i64 x268001_1] 47 (0, 0)) (by (with_reducible repeat (first | refine blk_drewN ?_ _ | refine blk_drew ?_ | refine blk_alloc ?_ _)); exact BK267.out)) : gb267 ≠ gb270)); have n11_ := Aside0.mk ((by rw [hg]; exact Nat.ne_of_gt (blk_lt (g := gb267) (o := .cells #[.int .i64 x268000_1, .int .i64 x268001_1] 47 (0, 0)) (by (with_reducible repeat (first | refine blk_drewN ?_ _ | refine blk_drew ?_ | refine blk_alloc ?_ _)); exact BK267.out)) : gb270 ≠ gb267)); have n12_ := Aside0.mk ((by rw [hg]; exact Nat.ne_of_lt (blk_lt (g := gb268) (o := .cells #[.int .i64 x269000_1, .int .i64 x269001_1] 47 (0, 0)) (by (with_reducible repeat (first | refine blk_drewN ?_ _ | refine blk_drew ?_ | refine blk_alloc ?_ _)); exact BK268.out)) : gb268 ≠ gb270)); have n13_ := Aside0.mk ((by rw [hg]; exact Nat.ne_of_gt (blk_lt (g := gb268) (o := .cells #[.int .i64 x269000_1, .int .i64 x269001_1] 47 (0, 0)) (by (with_reducible repeat (first | refine blk_drewN ?_ _ | refine blk_drew ?_ | refine blk_alloc ?_ _)); exact BK268.out)) : gb270 ≠ gb268)); clear HO_8; clear BK266; clear BK267; clear BK268; clear HB; have HO_8 := n0_; have BK266 := n1_; have BK267 := n2_; have BK268 := n3_; have HB := n4_; have BK270 := n5_; have GW270 := n6_; have GE270 := n7_; have NB266_270 := n8_; have NB270_266 := n9_; have NB267_270 := n10_; have NB270_267 := n11_; have NB268_270 := n12_; have NB270_268 := n13_; clear n0_ n1_ n2_ n3_ n4_ n5_ n6_ n7_ n8_ n9_ n10_ n11_ n12_ n13_; clear hb hbox hg; have hnb13 := NB270_266.out; have hnc13 := NB266_270.out; have hnb14 := NB270_267.out; have hnc14 := NB267_270.out; have hnb15 := NB270_268.out; have hnc15 := NB268_270.out; have hcz16_0 : w12.cell? ⟨gb270, 0, none⟩ = some (.int .i64 0) := (blk_cell BK270.out 0).trans rfl; have hcz16_1 : w12.cell? ⟨gb270, 1, none⟩ = some (.int .i64 0) := (blk_cell BK270.out 1).trans rfl; have hcz16_2 : w12.cell? ⟨gb270, 2, none⟩ = some (.bool false) := (blk_cell BK270.out 2).trans rfl; have hfz16_0 := blk_frozen BK270.out 0; have hfz16_1 := blk_frozen BK270.out 1; have hfz16_2 := blk_frozen BK270.out 2; have hnb17 := NB266_267.out; have hnc17 := NB267_266.out; have hnb18 := NB266_268.out; have hnc18 := NB268_266.out; have hcz19_0 : w12.cell? ⟨gb266, 0, none⟩ = some (.slice A0_0 l0_0.length c0_0) := (blk_cell BK266.out 0).trans rfl; have hcz19_1 : w12.cell? ⟨gb266, 1, none⟩ = some (.slice A0_1 l0_1.length c0_1) := (blk_cell BK266.out 1).trans rfl; have hcz19_2 : w12.cell? ⟨gb266, 2, none⟩ = some (.slice A0_2 l0_2.length c0_2) := (blk_cell BK266.out 2).trans rfl; have hcz19_3 : w12.cell? ⟨gb266, 3, none⟩ = some (.int .i64 a0_3) := (blk_cell BK266.out 3).trans rfl; have hcz19_4 : w12.cell? ⟨gb266, 4, none⟩ = some (.int .i64 a0_4) := (blk_cell BK266.out 4).trans rfl; have hfz19_0 := blk_frozen BK266.out 0; have hfz19_1 := blk_frozen BK266.out 1; have hfz19_2 := blk_frozen BK266.out 2; have hfz19_3 := blk_frozen BK266.out 3; have hfz19_4 := blk_frozen BK266.out 4; have hnb20 := NB268_267.out; have hnc20 := NB267_268.out; have hcz21_0 : w12.cell? ⟨gb268, 0, none⟩ = some (.int .i64 x269000_1) := (blk_cell BK268.out 0).trans rfl; have hcz21_1 : w12.cell? ⟨gb268, 1, none⟩ = some (.int .i64 x269001_1) := (blk_cell BK268.out 1).trans rfl; have hfz21_0 := blk_frozen BK268.out 0; have hfz21_1 := blk_frozen BK268.out 1) | ((with_reducible refine gate_callee (f := 25) rfl ?_); refine goesL_ (some 29) rfl rfl Try.func25 (by kernel_rfl) rfl #[.agg #[.slice A0_0 l0_0.length c0_0, .slice A0_1 l0_1.length c0_1, .slice A0_2 l0_2.length c0_2, .int .i64 a0_3, .int .i64 a0_4], .agg #[.int .i64 x269000_1, .int .i64 x269001_1], .int .i64 ((rd_T49 l1 x16_1).f0), .int .i64 ((rd_T49 l1 x16_1).f1), .bool ((rd_T49 l1 x16_1).f2)] rfl (by (try simp only [List.map_toArray, List.map_cons, List.map_nil]); first | done | rfl | (simp only [List.length_drop, List.length_take]; rfl)) ?_; (with_reducible refine (hold_Step.calls k1 _ _ l0_0 _ _ l0_1 _ _ l0_2 a0_3 a0_4 x269000_1 x269001_1 ((rd_T49 l1 x16_1).f0) ((rd_T49 l1 x16_1).f1) ((rd_T49 l1 x16_1).f2) t271 t272 t273 t274 _ ?side1 ?side2 ?side3 ?side4 ?side5 ?side6 A9.out).mono ?_); (case side1 => exact Kd.C_below HR0_0.out (by repeat (first | (with_reducible first | exact HB.out | apply below_alloc | apply pw_below_drewN | apply below_drew1 | refine below_set ?_ GE266.out | refine below_set ?_ GE267.out | refine below_set ?_ GE268.out | refine below_set ?_ GE270.out) | exact HB.out))); (case side2 => exact HC0_0.out); (case side3 => exact Kd.C_below HR0_1.out (by repeat (first | (with_reducible first | exact HB.out | apply below_alloc | apply pw_below_drewN | apply below_drew1 | refine below_set ?_ GE266.out | refine below_set ?_ GE267.out | refine below_set ?_ GE268.out | refine below_set ?_ GE270.out) | exact HB.out))); (case side4 => exact HC0_1.out); (case side5 => exact Kd.C_below HR0_2.out (by repeat (first | (with_reducible first | exact HB.out | apply below_alloc | apply pw_below_drewN | apply below_drew1 | refine below_set ?_ GE266.out | refine below_set ?_ GE267.out | refine below_set ?_ GE268.out | refine below_set ?_ GE270.out) | exact HB.out))); (case side6 => exact HC0_2.out); rintro e w22 ⟨rfl, hb⟩; refine ⟨_, rfl, ?_⟩; have n0_ := Aside0.mk (Kd.R_below (by (with_reducible repeat (first | apply Kd.R_alloc | apply Kd.R_drewN | apply Kd.R_drew)); exact (Kd.R_mono (Kd.R_far (p := ⟨gb270, 2, none⟩) (Kd.R_far (p := ⟨gb270, 1, none⟩) (Kd.R_far (p := ⟨gb270, 0, none⟩) (Kd.R_types HO_8.out BK270.out (by decide)) (fun _ hk => hk.2) (.int .i64 ((rd_T49 l1 x16_1).f0))) (fun _ hk => hk.2) (.int .i64 ((rd_T49 l1 x16_1).f1))) (fun _ hk => hk.2) (.bool ((rd_T49 l1 x16_1).f2))) (fun _ h_ => h_.1))) hb); have n1_ := Aside0.mk (blk_below (g := gb266) (o := .cells #[.slice A0_0 l0_0.length c0_0, .slice A0_1 l0_1.length c0_1, .slice A0_2 l0_2.length c0_2, .int .i64 a0_3, .int .i64 a0_4] 55 (0, 0)) (by (with_reducible repeat (first | refine blk_drewN ?_ _ | refine blk_drew ?_ | refine blk_alloc ?_ _)); refine blk_far ?_ NB266_270.out _; (with_reducible repeat (first | refine blk_drewN ?_ _ | refine blk_drew ?_ | refine blk_alloc ?_ _)); refine blk_far ?_ NB266_270.out _; (with_reducible repeat (first | refine blk_drewN ?_ _ | refine blk_drew ?_ | refine blk_alloc ?_ _)); refine blk_far ?_ NB266_270.out _; (with_reducible repeat (first | refine blk_drewN ?_ _ | refine blk_drew ?_ | refine blk_alloc ?_ _)); exact BK266.out) hb); have n2_ := Aside0.mk (blk_below (g := gb267) (o := .cells #[.int .i64 x268000_1, .int .i64 x268001_1] 47 (0, 0)) (by (with_reducible repeat (first | refine blk_drewN ?_ _ | refine blk_drew ?_ | refine blk_alloc ?_ _)); refine blk_far ?_ NB267_270.out _; (with_reducible repeat (first | refine blk_drewN ?_ _ | refine blk_drew ?_ | refine blk_alloc ?_ _)); refine blk_far ?_ NB267_270.out _; (with_reducible repeat (first | refine blk_drewN ?_ _ | refine blk_drew ?_ | refine blk_alloc ?_ _)); refine blk_far ?_ NB267_270.out _; (with_reducible repeat (first | refine blk_drewN ?_ _ | refine blk_drew ?_ | refine blk_alloc ?_ _)); exact BK267.out) hb); have n3_ := Aside0.mk (blk_below (g := gb268) (o := .cells #[.int .i64 x269000_1, .int .i64 x269001_1] 47 (0, 0)) (by (with_reducible repeat (first | refine blk_drewN ?_ _ | refine blk_drew ?_ | refine blk_alloc ?_ _)); refine blk_far ?_ NB268_270.out _; (with_reducible repeat (first | refine blk_drewN ?_ _ | refine blk_drew ?_ | refine blk_alloc ?_ _)); refine blk_far ?_ NB268_270.out _; (with_reducible repeat (first | refine blk_drewN ?_ _ | refine blk_drew ?_ | refine blk_alloc ?_ _)); refine blk_far ?_ NB268_270.out _; (with_reducible repeat (first | refine blk_drewN ?_ _ | refine blk_drew ?_ | refine blk_alloc ?_ _)); exact BK268.out) hb); have n4_ := Aside0.mk (blk_below (g := gb270) (o := .cells #[.int .i64 ((rd_T49 l1 x16_1).f0), .int .i64 ((rd_T49 l1 x16_1).f1), .bool ((rd_T49 l1 x16_1).f2)] 49 (0, 0)) (by (with_reducible repeat (first | refine blk_drewN ?_ _ | refine blk_drew ?_ | refine blk_alloc ?_ _)); refine blk_put (cs := #[.int .i64 ((rd_T49 l1 x16_1).f0), .int .i64 ((rd_T49 l1 x16_1).f1), .bool false]) ?_ 2 _ rfl; (with_reducible repeat (first | refine blk_drewN ?_ _ | refine blk_drew ?_ | refine blk_alloc ?_ _)); refine blk_put (cs := #[.int .i64 ((rd_T49 l1 x16_1).f0), .int .i64 0, .bool false]) ?_ 1 _ rfl; (with_reducible repeat (first | refine blk_drewN ?_ _ | refine blk_drew ?_ | refine blk_alloc ?_ _)); refine blk_put (cs := #[.int .i64 0, .int .i64 0, .bool false]) ?_ 0 _ rfl; (with_reducible repeat (first | refine blk_drewN ?_ _ | refine blk_drew ?_ | refine blk_alloc ?_ _)); exact BK270.out) hb); have n5_ := Aside0.mk (below_step (by repeat (first | (with_reducible first | exact HB.out | apply below_alloc | apply pw_below_drewN | apply below_drew1 | refine below_set ?_ GE266.out | refine below_set ?_ GE267.out | refine below_set ?_ GE268.out | refine below_set ?_ GE270.out) | exact HB.out)) hb); clear HO_8; clear BK266; clear BK267; clear BK268; clear BK270; clear HB; have HO_8 := n0_; have BK266 := n1_; have BK267 := n2_; have BK268 := n3_; have BK270 := n4_; have HB := n5_; clear n0_ n1_ n2_ n3_ n4_ n5_; (try clear hb); (try clear hb2); (try clear hk); (try clear hi)) | ((with_reducible refine gate_dst (N := 12) rfl ?_); refine box_event ?hg (N := 12) ?hd (cs := #[.int .i64 0, .int .i64 0]) (t := 47) ?hr ?_; (case hd => rfl); (case hg => rfl); (case hr => first | (go_simp; done) | (go_simp; rfl)); intro gb275 hg w23 hbox hb; have n0_ := Aside0.mk (Kd.R_below (by (with_reducible repeat (first | apply Kd.R_alloc | apply Kd.R_drewN | apply Kd.R_drew)); exact HO_8.out) hb); have n1_ := Aside0.mk (blk_below (g := gb266) (o := .cells #[.slice A0_0 l0_0.length c0_0, .slice A0_1 l0_1.length c0_1, .slice A0_2 l0_2.length c0_2, .int .i64 a0_3, .int .i64 a0_4] 55 (0, 0)) (by (with_reducible repeat (first | refine blk_drewN ?_ _ | refine blk_drew ?_ | refine blk_alloc ?_ _)); exact BK266.out) hb); have n2_ := Aside0.mk (blk_below (g := gb267) (o := .cells #[.int .i64 x268000_1, .int .i64 x268001_1] 47 (0, 0)) (by (with_reducible repeat (first | refine blk_drewN ?_ _ | refine blk_drew ?_ | refine blk_alloc ?_ _)); exact BK267.out) hb); have n3_ := Aside0.mk (blk_below (g := gb268) (o := .cells #[.int .i64 x269000_1, .int .i64 x269001_1] 47 (0, 0)) (by (with_reducible repeat (first | refine blk_drewN ?_ _ | refine blk_drew ?_ | refine blk_alloc ?_ _)); exact BK268.out) hb); have n4_ := Aside0.mk (blk_below (g := gb270) (o := .cells #[.int .i64 ((rd_T49 l1 x16_1).f0), .int .i64 ((rd_T49 l1 x16_1).f1), .bool ((rd_T49 l1 x16_1).f2)] 49 (0, 0)) (by (with_reducible repeat (first | refine blk_drewN ?_ _ | refine blk_drew ?_ | refine blk_alloc ?_ _)); exact BK270.out) hb); have n5_ := Aside0.mk (below_step (by repeat (first | (with_reducible first | exact HB.out | apply below_alloc | apply pw_below_drewN | apply below_drew1 | refine below_set ?_ GE266.out | refine below_set ?_ GE267.out | refine below_set ?_ GE268.out | refine below_set ?_ GE270.out) | exact HB.out)) hb); have n6_ := Aside0.mk (hbox); have n7_ := Aside0.mk ((by rw [hg]; exact (below_size (by repeat (first | (with_reducible first | exact HB.out | apply below_alloc | apply pw_below_drewN | apply below_drew1 | refine below_set ?_ GE266.out | refine below_set ?_ GE267.out | refine below_set ?_ GE268.out | refine below_set ?_ GE270.out) | exact HB.out))) : w.heap.size ≤ gb275)); have n8_ := Aside0.mk ((by rw [hg]; exact (below_size (by repeat (first | (with_reducible first | exact HB.out | apply below_alloc | apply pw_below_drewN | apply below_drew1 | refine below_set ?_ GE266.out | refine below_set ?_ GE267.out | refine below_set ?_ GE268.out | refine below_set ?_ GE270.out) | exact HB.out))) : w.heap.size ≤ gb275)); have n9_ := Aside0.mk ((by rw [hg]; exact Nat.ne_of_lt (blk_lt (g := gb266) (o := .cells #[.slice A0_0 l0_0.length c0_0, .slice A0_1 l0_1.length c0_1, .slice A0_2 l0_2.length c0_2, .int .i64 a0_3, .int .i64 a0_4] 55 (0, 0)) (by (with_reducible repeat (first | refine blk_drewN ?_ _ | refine blk_drew ?_ | refine blk_alloc ?_ _)); exact BK266.out)) : gb266 ≠ gb275)); have n10_ := Aside0.mk ((by rw [hg]; exact Nat.ne_of_gt (blk_lt (g := gb266) (o := .cells #[.slice A0_0 l0_0.length c0_0, .slice A0_1 l0_1.length c0_1, .slice A0_2 l0_2.length c0_2, .int .i64 a0_3, .int .i64 a0_4] 55 (0, 0)) (by (with_reducible repeat (first | refine blk_drewN ?_ _ | refine blk_drew ?_ | refine blk_alloc ?_ _)); exact BK266.out)) : gb275 ≠ gb266)); have n11_ := Aside0.mk ((by rw [hg]; exact Nat.ne_of_lt (blk_lt (g := gb267) (o := .cells #[.int .i64 x268000_1, .int .i64 x268001_1] 47 (0, 0)) (by (with_reducible repeat (first | refine blk_drewN ?_ _ | refine blk_drew ?_ | refine blk_alloc ?_ _)); exact BK267.out)) : gb267 ≠ gb275)); have n12_ := Aside0.mk ((by rw [hg]; exact Nat.ne_of_gt (blk_lt (g := gb267) (o := .cells #[.int .i64 x268000_1, .int .i64 x268001_1] 47 (0, 0)) (by (with_reducible repeat (first | refine blk_drewN ?_ _ | refine blk_drew ?_ | refine blk_alloc ?_ _)); exact BK267.out)) : gb275 ≠ gb267)); have n13_ := Aside0.mk ((by rw [hg]; exact Nat.ne_of_lt (blk_lt (g := gb268) (o := .cells #[.int .i64 x269000_1, .int .i64 x269001_1] 47 (0, 0)) (by (with_reducible repeat (first | refine blk_drewN ?_ _ | refine blk_drew ?_ | refine blk_alloc ?_ _)); exact BK268.out)) : gb268 ≠ gb275)); have n14_ := Aside0.mk ((by rw [hg]; exact Nat.ne_of_gt (blk_lt (g := gb268) (o := .cells #[.int .i64 x269000_1, .int .i64 x269001_1] 47 (0, 0)) (by (with_reducible repeat (first | refine blk_drewN ?_ _ | refine blk_drew ?_ | refine blk_alloc ?_ _)); exact BK268.out)) : gb275 ≠ gb268)); have n15_ := Aside0.mk ((by rw [hg]; exact Nat.ne_of_lt (blk_lt (g := gb270) (o := .cells #[.int .i64 ((rd_T49 l1 x16_1).f0), .int .i64 ((rd_T49 l1 x16_1).f1), .bool ((rd_T49 l1 x16_1).f2)] 49 (0, 0)) (by (with_reducible repeat (first | refine blk_drewN ?_ _ | refine blk_drew ?_ | refine blk_alloc ?_ _)); exact BK270.out)) : gb270 ≠ gb275)); have n16_ := Aside0.mk ((by rw [hg]; exact Nat.ne_of_gt (blk_lt (g := gb270) (o := .cells #[.int .i64 ((rd_T49 l1 x16_1).f0), .int .i64 ((rd_T49 l1 x16_1).f1), .bool ((rd_T49 l1 x16_1).f2)] 49 (0, 0)) (by (with_reducible repeat (first | refine blk_drewN ?_ _ | refine blk_drew ?_ | refine blk_alloc ?_ _)); exact BK270.out)) : gb275 ≠ gb270)); clear HO_8; clear BK266; clear BK267; clear BK268; clear BK270; clear HB; have HO_8 := n0_; have BK266 := n1_; have BK267 := n2_; have BK268 := n3_; have BK270 := n4_; have HB := n5_; have BK275 := n6_; have GW275 := n7_; have GE275 := n8_; have NB266_275 := n9_; have NB275_266 := n10_; have NB267_275 := n11_; have NB275_267 := n12_; have NB268_275 := n13_; have NB275_268 := n14_; have NB270_275 := n15_; have NB275_270 := n16_; clear n0_ n1_ n2_ n3_ n4_ n5_ n6_ n7_ n8_ n9_ n10_ n11_ n12_ n13_ n14_ n15_ n16_; clear hb hbox hg; have hnb24 := NB275_266.out; have hnc24 := NB266_275.out; have hnb25 := NB275_267.out; have hnc25 := NB267_275.out; have hnb26 := NB275_268.out; have hnc26 := NB268_275.out; have hnb27 := NB275_270.out; have hnc27 := NB270_275.out; have hcz28_0 : w23.cell? ⟨gb275, 0, none⟩ = some (.int .i64 0) := (blk_cell BK275.out 0).trans rfl; have hcz28_1 : w23.cell? ⟨gb275, 1, none⟩ = some (.int .i64 0) := (blk_cell BK275.out 1).trans rfl; have hfz28_0 := blk_frozen BK275.out 0; have hfz28_1 := blk_frozen BK275.out 1))
                have n0_ : Aside0 (Kd.R (Kd.int .i64) 2 ((w23.setCell ⟨gb275, 0, none⟩ (.int .i64 t272)).setCell ⟨gb275, 1, none⟩ (.int .i64 t273)) w.heap.size (fun _ => True) u8 x8_1) := ⟨by (with_reducible repeat (first | apply Kd.R_alloc | apply Kd.R_drewN | apply Kd.R_drew)); exact Kd.R_mono (Kd.R_far (p := ⟨gb275, 1, none⟩) (Kd.R_far (p := ⟨gb275, 0, none⟩) (Kd.R_types HO_8.out BK275.out (by decide)) (fun _ hk => hk.2) (.int .i64 t272)) (fun _ hk => hk.2) (.int .i64 t273)) (fun _ hk => trivial)⟩
                have n1_ : Aside0 (((w23.setCell ⟨gb275, 0, none⟩ (.int .i64 t272)).setCell ⟨gb275, 1, none⟩ (.int .i64 t273)).heap[gb266]? = some (.cells #[.slice A0_0 l0_0.length c0_0, .slice A0_1 l0_1.length c0_1, .slice A0_2 l0_2.length c0_2, .int .i64 a0_3, .int .i64 a0_4] 55 (0, 0))) := ⟨by (with_reducible repeat (first | refine blk_drewN ?_ _ | refine blk_drew ?_ | refine blk_alloc ?_ _)); refine blk_far ?_ NB266_275.out _; (with_reducible repeat (first | refine blk_drewN ?_ _ | refine blk_drew ?_ | refine blk_alloc ?_ _)); refine blk_far ?_ NB266_275.out _; (with_reducible repeat (first | refine blk_drewN ?_ _ | refine blk_drew ?_ | refine blk_alloc ?_ _)); exact BK266.out⟩
                have n2_ : Aside0 (((w23.setCell ⟨gb275, 0, none⟩ (.int .i64 t272)).setCell ⟨gb275, 1, none⟩ (.int .i64 t273)).heap[gb267]? = some (.cells #[.int .i64 x268000_1, .int .i64 x268001_1] 47 (0, 0))) := ⟨by (with_reducible repeat (first | refine blk_drewN ?_ _ | refine blk_drew ?_ | refine blk_alloc ?_ _)); refine blk_far ?_ NB267_275.out _; (with_reducible repeat (first | refine blk_drewN ?_ _ | refine blk_drew ?_ | refine blk_alloc ?_ _)); refine blk_far ?_ NB267_275.out _; (with_reducible repeat (first | refine blk_drewN ?_ _ | refine blk_drew ?_ | refine blk_alloc ?_ _)); exact BK267.out⟩
                have n3_ : Aside0 (((w23.setCell ⟨gb275, 0, none⟩ (.int .i64 t272)).setCell ⟨gb275, 1, none⟩ (.int .i64 t273)).heap[gb268]? = some (.cells #[.int .i64 x269000_1, .int .i64 x269001_1] 47 (0, 0))) := ⟨by (with_reducible repeat (first | refine blk_drewN ?_ _ | refine blk_drew ?_ | refine blk_alloc ?_ _)); refine blk_far ?_ NB268_275.out _; (with_reducible repeat (first | refine blk_drewN ?_ _ | refine blk_drew ?_ | refine blk_alloc ?_ _)); refine blk_far ?_ NB268_275.out _; (with_reducible repeat (first | refine blk_drewN ?_ _ | refine blk_drew ?_ | refine blk_alloc ?_ _)); exact BK268.out⟩
                have n4_ : Aside0 (((w23.setCell ⟨gb275, 0, none⟩ (.int .i64 t272)).setCell ⟨gb275, 1, none⟩ (.int .i64 t273)).heap[gb270]? = some (.cells #[.int .i64 ((rd_T49 l1 x16_1).f0), .int .i64 ((rd_T49 l1 x16_1).f1), .bool ((rd_T49 l1 x16_1).f2)] 49 (0, 0))) := ⟨by (with_reducible repeat (first | refine blk_drewN ?_ _ | refine blk_drew ?_ | refine blk_alloc ?_ _)); refine blk_far ?_ NB270_275.out _; (with_reducible repeat (first | refine blk_drewN ?_ _ | refine blk_drew ?_ | refine blk_alloc ?_ _)); refine blk_far ?_ NB270_275.out _; (with_reducible repeat (first | refine blk_drewN ?_ _ | refine blk_drew ?_ | refine blk_alloc ?_ _)); exact BK270.out⟩
                have n5_ : Aside0 (((w23.setCell ⟨gb275, 0, none⟩ (.int .i64 t272)).setCell ⟨gb275, 1, none⟩ (.int .i64 t273)).heap[gb275]? = some (.cells #[.int .i64 t272, .int .i64 t273] 47 (0, 0))) := ⟨by (with_reducible repeat (first | refine blk_drewN ?_ _ | refine blk_drew ?_ | refine blk_alloc ?_ _)); refine blk_put (cs := #[.int .i64 t272, .int .i64 0]) ?_ 1 _ rfl; (with_reducible repeat (first | refine blk_drewN ?_ _ | refine blk_drew ?_ | refine blk_alloc ?_ _)); refine blk_put (cs := #[.int .i64 0, .int .i64 0]) ?_ 0 _ rfl; (with_reducible repeat (first | refine blk_drewN ?_ _ | refine blk_drew ?_ | refine blk_alloc ?_ _)); exact BK275.out⟩
                have n6_ : Aside0 (Below w.heap.size w ((w23.setCell ⟨gb275, 0, none⟩ (.int .i64 t272)).setCell ⟨gb275, 1, none⟩ (.int .i64 t273))) := ⟨by repeat (first | (with_reducible first | exact HB.out | apply below_alloc | apply pw_below_drewN | apply below_drew1 | refine below_set ?_ GE266.out | refine below_set ?_ GE267.out | refine below_set ?_ GE268.out | refine below_set ?_ GE270.out | refine below_set ?_ GE275.out) | exact HB.out)⟩
                (try clear HO_8)
                (try clear BK266)
                (try clear BK267)
                (try clear BK268)
                (try clear BK270)
                (try clear BK275)
                (try clear HB)
                generalize ((w23.setCell ⟨gb275, 0, none⟩ (.int .i64 t272)).setCell ⟨gb275, 1, none⟩ (.int .i64 t273)) = w29 at n0_ n1_ n2_ n3_ n4_ n5_ n6_ ⊢
                have HO_8 := n0_
                have BK266 := n1_
                have BK267 := n2_
                have BK268 := n3_
                have BK270 := n4_
                have BK275 := n5_
                have HB := n6_
                clear n0_ n1_ n2_ n3_ n4_ n5_ n6_
                have n0_ := Aside0.mk (Kd.R_drew HO_8.out)
                have n1_ := Aside0.mk (blk_drew BK266.out)
                have n2_ := Aside0.mk (blk_drew BK267.out)
                have n3_ := Aside0.mk (blk_drew BK268.out)
                have n4_ := Aside0.mk (blk_drew BK270.out)
                have n5_ := Aside0.mk (blk_drew BK275.out)
                have n6_ := Aside0.mk (below_drew1 HB.out)
                clear HO_8
                clear BK266
                clear BK267
                clear BK268
                clear BK270
                clear BK275
                clear HB
                have HO_8 := n0_
                have BK266 := n1_
                have BK267 := n2_
                have BK268 := n3_
                have BK270 := n4_
                have BK275 := n5_
                have HB := n6_
                clear n0_ n1_ n2_ n3_ n4_ n5_ n6_
                refine start_ (n := 7) (S := fun w' => w'.cell? ⟨gb275, 0, none⟩ = some (.int .i64 t272) ∧ w'.cell? ⟨gb275, 1, none⟩ = some (.int .i64 t273)) (ds := []) #[false, false, false, false, false, false, false] (by kernel_rfl) rfl rfl ⟨(blk_cell BK275.out 0).trans rfl, (blk_cell BK275.out 1).trans rfl⟩ (fun hHeld => ?_)
                generalize w29.drew = w30 at HO_8 BK266 BK267 BK268 BK270 BK275 HB hHeld ⊢
                refine pure_ (i := 0) (N := some 37) (v := ?_) (a' := ?_) #[true, false, false, false, false, false, false] rfl rfl (by kernel_rfl) (fun _ _ _ h => h) (Or.inl ⟨by rfl, ?_⟩) ?_ ?_
                rotate_left
                · intro w'
                  go_simp
                  with_reducible rfl
                rotate_left
                · simp only [Act.put, List.setIfInBounds_toArray, List.set_cons_zero, List.set_cons_succ, i64_w, i32_w]
                  rfl
                refine pure_ (i := 1) (N := some 38) (v := ?_) (a' := ?_) #[true, true, false, false, false, false, false] rfl rfl (by kernel_rfl) (fun _ _ _ h => h) (Or.inl ⟨by rfl, ?_⟩) ?_ ?_
                rotate_left
                · intro w'
                  go_simp
                  with_reducible rfl
                rotate_left
                · simp only [Act.put, List.setIfInBounds_toArray, List.set_cons_zero, List.set_cons_succ, i64_w, i32_w]
                  rfl
                refine take_ (i := 4) (N := some 41) (v := ?_) (a' := ?_) #[true, true, false, false, true, false, false] rfl rfl (by kernel_rfl) (fun _ _ _ h => h) (Or.inl ⟨by rfl, ?_⟩) hHeld ?_ ?_
                rotate_left
                · rintro w' ⟨s0, s1⟩
                  go_simp
                  with_reducible rfl
                rotate_left
                · simp only [Act.put, List.setIfInBounds_toArray, List.set_cons_zero, List.set_cons_succ, i64_w, i32_w]
                  rfl
                refine one_ (i := 2) (N := some 39) #[true, true, true, false, true, false, false] rfl rfl (by kernel_rfl) (by decide) (fun K hK => ?_)
                refine value_ (w1 := ?_) (v := ?_) (by rfl) rfl ?_ ?_
                rotate_left 2
                · go_simp
                  constructor
                  · rfl
                  · rfl
                refine hK.out _ _ ⟨(blk_cell (blk_alloc BK275.out _) 0).trans rfl, (blk_cell (blk_alloc BK275.out _) 1).trans rfl⟩ (fun hHeld => ?_)
                clear hK K
                refine norm_ (a' := ?_) ?_ ?_
                rotate_left
                · show Act.put _ (some 39) _ = _
                  simp only [Act.put, List.setIfInBounds_toArray, List.set_cons_zero, List.set_cons_succ, i64_w, i32_w]
                  rfl
                refine one_ (i := 3) (N := some 40) #[true, true, true, true, true, false, false] rfl rfl (by kernel_rfl) (by decide) (fun K hK => ?_)
                refine Kd.R_append_step (Kd.int .i64) (w0 := w) w.heap.size (by rfl) (.tmp 37) (.tmp 39) 23 2 (.int .i64 0) 8 rfl Try.underlying23 info2 rfl (by decide) (by omega) u8 x8_1 t271 [.int .i64 t271] (fun _ => True) (fun _ => False) rfl rfl ?aP (fun _ hk => hk.elim) ?aF ?aO ?aB ?aS ?aL ?_
                (case aP => exact rfl)
                (case aB => exact (by repeat (first | (with_reducible first | exact HB.out | apply below_alloc | apply pw_below_drewN | apply below_drew1 | refine below_set ?_ GE266.out | refine below_set ?_ GE267.out | refine below_set ?_ GE268.out | refine below_set ?_ GE270.out | refine below_set ?_ GE275.out) | exact HB.out)))
                (case aF => exact (fun _ _ => trivial))
                (case aO => exact (by (with_reducible repeat (first | apply Kd.R_alloc | apply Kd.R_drewN | apply Kd.R_drew)); exact HO_8.out))
                (case aS => exact (below_size (by repeat (first | (with_reducible first | exact HB.out | apply below_alloc | apply pw_below_drewN | apply below_drew1 | refine below_set ?_ GE266.out | refine below_set ?_ GE267.out | refine below_set ?_ GE268.out | refine below_set ?_ GE270.out | refine below_set ?_ GE275.out) | exact HB.out))))
                (case aL => have := LMc11.out; omega)
                intro v277 w31 ho hb hg hat
                rw [← Ny276.out] at ho
                have n0_ := Aside0.mk (blk_grown (g := gb266) (o := .cells #[.slice A0_0 l0_0.length c0_0, .slice A0_1 l0_1.length c0_1, .slice A0_2 l0_2.length c0_2, .int .i64 a0_3, .int .i64 a0_4] 55 (0, 0)) (by (with_reducible repeat (first | refine blk_drewN ?_ _ | refine blk_drew ?_ | refine blk_alloc ?_ _)); exact BK266.out) hg (Kd.R_ne HO_8.out BK266.out (by decide)))
                have n1_ := Aside0.mk (blk_grown (g := gb267) (o := .cells #[.int .i64 x268000_1, .int .i64 x268001_1] 47 (0, 0)) (by (with_reducible repeat (first | refine blk_drewN ?_ _ | refine blk_drew ?_ | refine blk_alloc ?_ _)); exact BK267.out) hg (Kd.R_ne HO_8.out BK267.out (by decide)))
                have n2_ := Aside0.mk (blk_grown (g := gb268) (o := .cells #[.int .i64 x269000_1, .int .i64 x269001_1] 47 (0, 0)) (by (with_reducible repeat (first | refine blk_drewN ?_ _ | refine blk_drew ?_ | refine blk_alloc ?_ _)); exact BK268.out) hg (Kd.R_ne HO_8.out BK268.out (by decide)))
                have n3_ := Aside0.mk (blk_grown (g := gb270) (o := .cells #[.int .i64 ((rd_T49 l1 x16_1).f0), .int .i64 ((rd_T49 l1 x16_1).f1), .bool ((rd_T49 l1 x16_1).f2)] 49 (0, 0)) (by (with_reducible repeat (first | refine blk_drewN ?_ _ | refine blk_drew ?_ | refine blk_alloc ?_ _)); exact BK270.out) hg (Kd.R_ne HO_8.out BK270.out (by decide)))
                have n4_ := Aside0.mk (blk_grown (g := gb275) (o := .cells #[.int .i64 t272, .int .i64 t273] 47 (0, 0)) (by (with_reducible repeat (first | refine blk_drewN ?_ _ | refine blk_drew ?_ | refine blk_alloc ?_ _)); exact BK275.out) hg (Kd.R_ne HO_8.out BK275.out (by decide)))
                have n5_ := Aside0.mk (hb)
                have n6_ := Aside0.mk (ho)
                clear BK266
                clear BK267
                clear BK268
                clear BK270
                clear BK275
                clear HB
                clear HO_8
                have BK266 := n0_
                have BK267 := n1_
                have BK268 := n2_
                have BK270 := n3_
                have BK275 := n4_
                have HB := n5_
                have HO278 := n6_
                clear n0_ n1_ n2_ n3_ n4_ n5_ n6_
                clear ho hb hg hat
                refine hK.out _ _ ⟨(blk_cell BK275.out 0).trans rfl, (blk_cell BK275.out 1).trans rfl⟩ (fun hHeld => ?_)
                clear hK K
                refine norm_ (a' := ?_) ?_ ?_
                rotate_left
                · show Act.put _ (some 40) _ = _
                  simp only [Act.put, List.setIfInBounds_toArray, List.set_cons_zero, List.set_cons_succ, i64_w, i32_w]
                  rfl
                refine pure_ (i := 5) (N := some 8) (v := ?_) (a' := ?_) #[true, true, true, true, true, true, false] rfl rfl (by kernel_rfl) (fun _ _ _ h => h) (Or.inl ⟨by rfl, ?_⟩) ?_ ?_
                rotate_left
                · intro w'
                  go_simp
                  with_reducible rfl
                rotate_left
                · simp only [Act.put, List.setIfInBounds_toArray, List.set_cons_zero, List.set_cons_succ, i64_w, i32_w]
                  rfl
                refine one_ (i := 6) (N := none) #[true, true, true, true, true, true, true] rfl rfl (by kernel_rfl) (by decide) (fun K hK => ?_)
                have hs32 : w31.cell? ⟨gb268, 0, none⟩ = some (.int .i64 x269000_1) := (blk_cell BK268.out 0).trans rfl
                have hfs32 := blk_frozen BK268.out 0
                have hns32_0 := NB266_268.out
                have hns32_1 := NB267_268.out
                have hns32_3 := NB270_268.out
                have hns32_4 := NB275_268.out
                have hms32_0 := NB268_266.out
                have hms32_1 := NB268_267.out
                have hms32_3 := NB268_270.out
                have hms32_4 := NB268_275.out
                have hs33 : w31.cell? ⟨gb268, 1, none⟩ = some (.int .i64 x269001_1) := (blk_cell BK268.out 1).trans rfl
                have hfs33 := blk_frozen BK268.out 1
                have hns33_0 := NB266_268.out
                have hns33_1 := NB267_268.out
                have hns33_3 := NB270_268.out
                have hns33_4 := NB275_268.out
                have hms33_0 := NB268_266.out
                have hms33_1 := NB268_267.out
                have hms33_3 := NB268_270.out
                have hms33_4 := NB268_275.out
                refine skip_ (w1 := ?_) (by rfl) rfl ?_ ?_
                rotate_left
                · go_simp
                  rfl
                refine hK.out _ _ ⟨((cell_far (p := ⟨gb268, _, none⟩) NB275_268.out _).trans (((cell_far (p := ⟨gb268, _, none⟩) NB275_268.out _).trans (hHeld.1)))), ((cell_far (p := ⟨gb268, _, none⟩) NB275_268.out _).trans (((cell_far (p := ⟨gb268, _, none⟩) NB275_268.out _).trans (hHeld.2))))⟩ (fun hHeld => ?_)
                clear hK K
                refine done_ (by kernel_rfl) ?_
                try go_wp2
                go_roundg k1
                case measure => have := HK1.out; omega
                case rel => exact ⟨(y276), (wrap64 (x16_1 + 1)), (x268000_1), (x268001_1), (t272), (t273), (by first | rfl | (simp; done) | (simp [*]; done)), H', ⟨by have := HK1.out; omega⟩, ⟨by (with_reducible repeat (first | apply Kd.R_alloc | apply Kd.R_drewN | apply Kd.R_drew)); exact Kd.R_mono (Kd.R_far (p := ⟨gb268, 1, none⟩) (Kd.R_far (p := ⟨gb268, 0, none⟩) (Kd.R_types HO278.out BK268.out (by decide)) (fun _ hk => hk.2) (.int .i64 t272)) (fun _ hk => hk.2) (.int .i64 t273)) (fun _ hk => trivial)⟩, ⟨by (with_reducible repeat (first | refine blk_drewN ?_ _ | refine blk_drew ?_ | refine blk_alloc ?_ _)); refine blk_far ?_ NB266_268.out _; (with_reducible repeat (first | refine blk_drewN ?_ _ | refine blk_drew ?_ | refine blk_alloc ?_ _)); refine blk_far ?_ NB266_268.out _; (with_reducible repeat (first | refine blk_drewN ?_ _ | refine blk_drew ?_ | refine blk_alloc ?_ _)); exact BK266.out⟩, ⟨by (with_reducible repeat (first | refine blk_drewN ?_ _ | refine blk_drew ?_ | refine blk_alloc ?_ _)); refine blk_far ?_ NB267_268.out _; (with_reducible repeat (first | refine blk_drewN ?_ _ | refine blk_drew ?_ | refine blk_alloc ?_ _)); refine blk_far ?_ NB267_268.out _; (with_reducible repeat (first | refine blk_drewN ?_ _ | refine blk_drew ?_ | refine blk_alloc ?_ _)); exact BK267.out⟩, ⟨by (with_reducible repeat (first | refine blk_drewN ?_ _ | refine blk_drew ?_ | refine blk_alloc ?_ _)); refine blk_put (cs := #[.int .i64 t272, .int .i64 x269001_1]) ?_ 1 _ rfl; (with_reducible repeat (first | refine blk_drewN ?_ _ | refine blk_drew ?_ | refine blk_alloc ?_ _)); refine blk_put (cs := #[.int .i64 x269000_1, .int .i64 x269001_1]) ?_ 0 _ rfl; (with_reducible repeat (first | refine blk_drewN ?_ _ | refine blk_drew ?_ | refine blk_alloc ?_ _)); exact BK268.out⟩, ⟨by repeat (first | (with_reducible first | exact HB.out | apply below_alloc | apply pw_below_drewN | apply below_drew1 | refine below_set ?_ GE266.out | refine below_set ?_ GE267.out | refine below_set ?_ GE268.out | refine below_set ?_ GE270.out | refine below_set ?_ GE275.out) | exact HB.out)⟩⟩
              · rw [if_neg c11] at H
                exact absurd H (by simp)
            · rw [if_neg c10] at H
              have c10b0 : (t274 == 0) = false := beq_eq_false_iff_ne.mpr c10
              have c10b1 : (t274 != 0) = true := bne_iff_ne.mpr c10
              simp only [Option.some.injEq, Prod.mk.injEq] at H
              obtain ⟨rfl, rfl, rfl, rfl⟩ := H
              have p269 : 0 ≤ (x16_1 : Int) := of_decide_eq_true (by first | (with_reducible assumption) | assumption)
              have q269 : x16_1 < (l1.length : Int) := of_decide_eq_true (by first | (with_reducible assumption) | assumption)
              obtain ⟨ad269, e269, hx269_0, hx269_1, hx269_2⟩ := at_T49 HR1.out x16_1 p269 q269
              cases e269
              replace hx269_0 := (HB.out.cell (World.block_lt_of_cell? w _ hx269_0)).trans hx269_0
              replace hx269_1 := (HB.out.cell (World.block_lt_of_cell? w _ hx269_1)).trans hx269_1
              replace hx269_2 := (HB.out.cell (World.block_lt_of_cell? w _ hx269_2)).trans hx269_2
              replace p269 := eq_true p269
              replace q269 := eq_true q269
              go_wp2_with (first | ((with_reducible refine gate_dst (N := 10) rfl ?_); refine box_event ?hg (N := 10) ?hd (cs := #[.int .i64 0, .int .i64 0, .bool false]) (t := 49) ?hr ?_; (case hd => rfl); (case hg => rfl); (case hr => first | (go_simp; done) | (go_simp; rfl)); intro gb270 hg w34 hbox hb; have n0_ := Aside0.mk (Kd.R_below (by (with_reducible repeat (first | apply Kd.R_alloc | apply Kd.R_drewN | apply Kd.R_drew)); exact HO_8.out) hb); have n1_ := Aside0.mk (blk_below (g := gb266) (o := .cells #[.slice A0_0 l0_0.length c0_0, .slice A0_1 l0_1.length c0_1, .slice A0_2 l0_2.length c0_2, .int .i64 a0_3, .int .i64 a0_4] 55 (0, 0)) (by (with_reducible repeat (first | refine blk_drewN ?_ _ | refine blk_drew ?_ | refine blk_alloc ?_ _)); exact BK266.out) hb); have n2_ := Aside0.mk (blk_below (g := gb267) (o := .cells #[.int .i64 x268000_1, .int .i64 x268001_1] 47 (0, 0)) (by (with_reducible repeat (first | refine blk_drewN ?_ _ | refine blk_drew ?_ | refine blk_alloc ?_ _)); exact BK267.out) hb); have n3_ := Aside0.mk (blk_below (g := gb268) (o := .cells #[.int .i64 x269000_1, .int .i64 x269001_1] 47 (0, 0)) (by (with_reducible repeat (first | refine blk_drewN ?_ _ | refine blk_drew ?_ | refine blk_alloc ?_ _)); exact BK268.out) hb); have n4_ := Aside0.mk (below_step (by repeat (first | (with_reducible first | exact HB.out | apply below_alloc | apply pw_below_drewN | apply below_drew1 | refine below_set ?_ GE266.out | refine below_set ?_ GE267.out | refine below_set ?_ GE268.out) | exact HB.out)) hb); have n5_ := Aside0.mk (hbox); have n6_ := Aside0.mk ((by rw [hg]; exact (below_size (by repeat (first | (with_reducible first | exact HB.out | apply below_alloc | apply pw_below_drewN | apply below_drew1 | refine below_set ?_ GE266.out | refine below_set ?_ GE267.out | refine below_set ?_ GE268.out) | exact HB.out))) : w.heap.size ≤ gb270)); have n7_ := Aside0.mk ((by rw [hg]; exact (below_size (by repeat (first | (with_reducible first | exact HB.out | apply below_alloc | apply pw_below_drewN | apply below_drew1 | refine below_set ?_ GE266.out | refine below_set ?_ GE267.out | refine below_set ?_ GE268.out) | exact HB.out))) : w.heap.size ≤ gb270)); have n8_ := Aside0.mk ((by rw [hg]; exact Nat.ne_of_lt (blk_lt (g := gb266) (o := .cells #[.slice A0_0 l0_0.length c0_0, .slice A0_1 l0_1.length c0_1, .slice A0_2 l0_2.length c0_2, .int .i64 a0_3, .int .i64 a0_4] 55 (0, 0)) (by (with_reducible repeat (first | refine blk_drewN ?_ _ | refine blk_drew ?_ | refine blk_alloc ?_ _)); exact BK266.out)) : gb266 ≠ gb270)); have n9_ := Aside0.mk ((by rw [hg]; exact Nat.ne_of_gt (blk_lt (g := gb266) (o := .cells #[.slice A0_0 l0_0.length c0_0, .slice A0_1 l0_1.length c0_1, .slice A0_2 l0_2.length c0_2, .int .i64 a0_3, .int .i64 a0_4] 55 (0, 0)) (by (with_reducible repeat (first | refine blk_drewN ?_ _ | refine blk_drew ?_ | refine blk_alloc ?_ _)); exact BK266.out)) : gb270 ≠ gb266)); have n10_ := Aside0.mk ((by rw [hg]; exact Nat.ne_of_lt (blk_lt (g := gb267) (o := .cells #[.int .i64 x268000_1, .int .i64 x268001_1] 47 (0, 0)) (by (with_reducible repeat (first | refine blk_drewN ?_ _ | refine blk_drew ?_ | refine blk_alloc ?_ _)); exact BK267.out)) : gb267 ≠ gb270)); have n11_ := Aside0.mk ((by rw [hg]; exact Nat.ne_of_gt (blk_lt (g := gb267) (o := .cells #[.int .i64 x268000_1, .int .i64 x268001_1] 47 (0, 0)) (by (with_reducible repeat (first | refine blk_drewN ?_ _ | refine blk_drew ?_ | refine blk_alloc ?_ _)); exact BK267.out)) : gb270 ≠ gb267)); have n12_ := Aside0.mk ((by rw [hg]; exact Nat.ne_of_lt (blk_lt (g := gb268) (o := .cells #[.int .i64 x269000_1, .int .i64 x269001_1] 47 (0, 0)) (by (with_reducible repeat (first | refine blk_drewN ?_ _ | refine blk_drew ?_ | refine blk_alloc ?_ _)); exact BK268.out)) : gb268 ≠ gb270)); have n13_ := Aside0.mk ((by rw [hg]; exact Nat.ne_of_gt (blk_lt (g := gb268) (o := .cells #[.int .i64 x269000_1, .int .i64 x269001_1] 47 (0, 0)) (by (with_reducible repeat (first | refine blk_drewN ?_ _ | refine blk_drew ?_ | refine blk_alloc ?_ _)); exact BK268.out)) : gb270 ≠ gb268)); clear HO_8; clear BK266; clear BK267; clear BK268; clear HB; have HO_8 := n0_; have BK266 := n1_; have BK267 := n2_; have BK268 := n3_; have HB := n4_; have BK270 := n5_; have GW270 := n6_; have GE270 := n7_; have NB266_270 := n8_; have NB270_266 := n9_; have NB267_270 := n10_; have NB270_267 := n11_; have NB268_270 := n12_; have NB270_268 := n13_; clear n0_ n1_ n2_ n3_ n4_ n5_ n6_ n7_ n8_ n9_ n10_ n11_ n12_ n13_; clear hb hbox hg; have hnb35 := NB270_266.out; have hnc35 := NB266_270.out; have hnb36 := NB270_267.out; have hnc36 := NB267_270.out; have hnb37 := NB270_268.out; have hnc37 := NB268_270.out; have hcz38_0 : w34.cell? ⟨gb270, 0, none⟩ = some (.int .i64 0) := (blk_cell BK270.out 0).trans rfl; have hcz38_1 : w34.cell? ⟨gb270, 1, none⟩ = some (.int .i64 0) := (blk_cell BK270.out 1).trans rfl; have hcz38_2 : w34.cell? ⟨gb270, 2, none⟩ = some (.bool false) := (blk_cell BK270.out 2).trans rfl; have hfz38_0 := blk_frozen BK270.out 0; have hfz38_1 := blk_frozen BK270.out 1; have hfz38_2 := blk_frozen BK270.out 2; have hnb39 := NB266_267.out; have hnc39 := NB267_266.out; have hnb40 := NB266_268.out; have hnc40 := NB268_266.out; have hcz41_0 : w34.cell? ⟨gb266, 0, none⟩ = some (.slice A0_0 l0_0.length c0_0) := (blk_cell BK266.out 0).trans rfl; have hcz41_1 : w34.cell? ⟨gb266, 1, none⟩ = some (.slice A0_1 l0_1.length c0_1) := (blk_cell BK266.out 1).trans rfl; have hcz41_2 : w34.cell? ⟨gb266, 2, none⟩ = some (.slice A0_2 l0_2.length c0_2) := (blk_cell BK266.out 2).trans rfl; have hcz41_3 : w34.cell? ⟨gb266, 3, none⟩ = some (.int .i64 a0_3) := (blk_cell BK266.out 3).trans rfl; have hcz41_4 : w34.cell? ⟨gb266, 4, none⟩ = some (.int .i64 a0_4) := (blk_cell BK266.out 4).trans rfl; have hfz41_0 := blk_frozen BK266.out 0; have hfz41_1 := blk_frozen BK266.out 1; have hfz41_2 := blk_frozen BK266.out 2; have hfz41_3 := blk_frozen BK266.out 3; have hfz41_4 := blk_frozen BK266.out 4; have hnb42 := NB268_267.out; have hnc42 := NB267_268.out; have hcz43_0 : w34.cell? ⟨gb268, 0, none⟩ = some (.int .i64 x269000_1) := (blk_cell BK268.out 0).trans rfl; have hcz43_1 : w34.cell? ⟨gb268, 1, none⟩ = some (.int .i64 x269001_1) := (blk_cell BK268.out 1).trans rfl; have hfz43_0 := blk_frozen BK268.out 0; have hfz43_1 := blk_frozen BK268.out 1) | ((with_reducible refine gate_callee (f := 25) rfl ?_); refine goesL_ (some 29) rfl rfl Try.func25 (by kernel_rfl) rfl #[.agg #[.slice A0_0 l0_0.length c0_0, .slice A0_1 l0_1.length c0_1, .slice A0_2 l0_2.length c0_2, .int .i64 a0_3, .int .i64 a0_4], .agg #[.int .i64 x269000_1, .int .i64 x269001_1], .int .i64 ((rd_T49 l1 x16_1).f0), .int .i64 ((rd_T49 l1 x16_1).f1), .bool ((rd_T49 l1 x16_1).f2)] rfl (by (try simp only [List.map_toArray, List.map_cons, List.map_nil]); first | done | rfl | (simp only [List.length_drop, List.length_take]; rfl)) ?_; (with_reducible refine (hold_Step.calls k1 _ _ l0_0 _ _ l0_1 _ _ l0_2 a0_3 a0_4 x269000_1 x269001_1 ((rd_T49 l1 x16_1).f0) ((rd_T49 l1 x16_1).f1) ((rd_T49 l1 x16_1).f2) t271 t272 t273 t274 _ ?side1 ?side2 ?side3 ?side4 ?side5 ?side6 A9.out).mono ?_); (case side1 => exact Kd.C_below HR0_0.out (by repeat (first | (with_reducible first | exact HB.out | apply below_alloc | apply pw_below_drewN | apply below_drew1 | refine below_set ?_ GE266.out | refine below_set ?_ GE267.out | refine below_set ?_ GE268.out | refine below_set ?_ GE270.out) | exact HB.out))); (case side2 => exact HC0_0.out); (case side3 => exact Kd.C_below HR0_1.out (by repeat (first | (with_reducible first | exact HB.out | apply below_alloc | apply pw_below_drewN | apply below_drew1 | refine below_set ?_ GE266.out | refine below_set ?_ GE267.out | refine below_set ?_ GE268.out | refine below_set ?_ GE270.out) | exact HB.out))); (case side4 => exact HC0_1.out); (case side5 => exact Kd.C_below HR0_2.out (by repeat (first | (with_reducible first | exact HB.out | apply below_alloc | apply pw_below_drewN | apply below_drew1 | refine below_set ?_ GE266.out | refine below_set ?_ GE267.out | refine below_set ?_ GE268.out | refine below_set ?_ GE270.out) | exact HB.out))); (case side6 => exact HC0_2.out); rintro e w44 ⟨rfl, hb⟩; refine ⟨_, rfl, ?_⟩; have n0_ := Aside0.mk (Kd.R_below (by (with_reducible repeat (first | apply Kd.R_alloc | apply Kd.R_drewN | apply Kd.R_drew)); exact (Kd.R_mono (Kd.R_far (p := ⟨gb270, 2, none⟩) (Kd.R_far (p := ⟨gb270, 1, none⟩) (Kd.R_far (p := ⟨gb270, 0, none⟩) (Kd.R_types HO_8.out BK270.out (by decide)) (fun _ hk => hk.2) (.int .i64 ((rd_T49 l1 x16_1).f0))) (fun _ hk => hk.2) (.int .i64 ((rd_T49 l1 x16_1).f1))) (fun _ hk => hk.2) (.bool ((rd_T49 l1 x16_1).f2))) (fun _ h_ => h_.1))) hb); have n1_ := Aside0.mk (blk_below (g := gb266) (o := .cells #[.slice A0_0 l0_0.length c0_0, .slice A0_1 l0_1.length c0_1, .slice A0_2 l0_2.length c0_2, .int .i64 a0_3, .int .i64 a0_4] 55 (0, 0)) (by (with_reducible repeat (first | refine blk_drewN ?_ _ | refine blk_drew ?_ | refine blk_alloc ?_ _)); refine blk_far ?_ NB266_270.out _; (with_reducible repeat (first | refine blk_drewN ?_ _ | refine blk_drew ?_ | refine blk_alloc ?_ _)); refine blk_far ?_ NB266_270.out _; (with_reducible repeat (first | refine blk_drewN ?_ _ | refine blk_drew ?_ | refine blk_alloc ?_ _)); refine blk_far ?_ NB266_270.out _; (with_reducible repeat (first | refine blk_drewN ?_ _ | refine blk_drew ?_ | refine blk_alloc ?_ _)); exact BK266.out) hb); have n2_ := Aside0.mk (blk_below (g := gb267) (o := .cells #[.int .i64 x268000_1, .int .i64 x268001_1] 47 (0, 0)) (by (with_reducible repeat (first | refine blk_drewN ?_ _ | refine blk_drew ?_ | refine blk_alloc ?_ _)); refine blk_far ?_ NB267_270.out _; (with_reducible repeat (first | refine blk_drewN ?_ _ | refine blk_drew ?_ | refine blk_alloc ?_ _)); refine blk_far ?_ NB267_270.out _; (with_reducible repeat (first | refine blk_drewN ?_ _ | refine blk_drew ?_ | refine blk_alloc ?_ _)); refine blk_far ?_ NB267_270.out _; (with_reducible repeat (first | refine blk_drewN ?_ _ | refine blk_drew ?_ | refine blk_alloc ?_ _)); exact BK267.out) hb); have n3_ := Aside0.mk (blk_below (g := gb268) (o := .cells #[.int .i64 x269000_1, .int .i64 x269001_1] 47 (0, 0)) (by (with_reducible repeat (first | refine blk_drewN ?_ _ | refine blk_drew ?_ | refine blk_alloc ?_ _)); refine blk_far ?_ NB268_270.out _; (with_reducible repeat (first | refine blk_drewN ?_ _ | refine blk_drew ?_ | refine blk_alloc ?_ _)); refine blk_far ?_ NB268_270.out _; (with_reducible repeat (first | refine blk_drewN ?_ _ | refine blk_drew ?_ | refine blk_alloc ?_ _)); refine blk_far ?_ NB268_270.out _; (with_reducible repeat (first | refine blk_drewN ?_ _ | refine blk_drew ?_ | refine blk_alloc ?_ _)); exact BK268.out) hb); have n4_ := Aside0.mk (blk_below (g := gb270) (o := .cells #[.int .i64 ((rd_T49 l1 x16_1).f0), .int .i64 ((rd_T49 l1 x16_1).f1), .bool ((rd_T49 l1 x16_1).f2)] 49 (0, 0)) (by (with_reducible repeat (first | refine blk_drewN ?_ _ | refine blk_drew ?_ | refine blk_alloc ?_ _)); refine blk_put (cs := #[.int .i64 ((rd_T49 l1 x16_1).f0), .int .i64 ((rd_T49 l1 x16_1).f1), .bool false]) ?_ 2 _ rfl; (with_reducible repeat (first | refine blk_drewN ?_ _ | refine blk_drew ?_ | refine blk_alloc ?_ _)); refine blk_put (cs := #[.int .i64 ((rd_T49 l1 x16_1).f0), .int .i64 0, .bool false]) ?_ 1 _ rfl; (with_reducible repeat (first | refine blk_drewN ?_ _ | refine blk_drew ?_ | refine blk_alloc ?_ _)); refine blk_put (cs := #[.int .i64 0, .int .i64 0, .bool false]) ?_ 0 _ rfl; (with_reducible repeat (first | refine blk_drewN ?_ _ | refine blk_drew ?_ | refine blk_alloc ?_ _)); exact BK270.out) hb); have n5_ := Aside0.mk (below_step (by repeat (first | (with_reducible first | exact HB.out | apply below_alloc | apply pw_below_drewN | apply below_drew1 | refine below_set ?_ GE266.out | refine below_set ?_ GE267.out | refine below_set ?_ GE268.out | refine below_set ?_ GE270.out) | exact HB.out)) hb); clear HO_8; clear BK266; clear BK267; clear BK268; clear BK270; clear HB; have HO_8 := n0_; have BK266 := n1_; have BK267 := n2_; have BK268 := n3_; have BK270 := n4_; have HB := n5_; clear n0_ n1_ n2_ n3_ n4_ n5_; (try clear hb); (try clear hb2); (try clear hk); (try clear hi)) | ((with_reducible refine gate_dst (N := 12) rfl ?_); refine box_event ?hg (N := 12) ?hd (cs := #[.int .i64 0, .int .i64 0]) (t := 47) ?hr ?_; (case hd => rfl); (case hg => rfl); (case hr => first | (go_simp; done) | (go_simp; rfl)); intro gb275 hg w45 hbox hb; have n0_ := Aside0.mk (Kd.R_below (by (with_reducible repeat (first | apply Kd.R_alloc | apply Kd.R_drewN | apply Kd.R_drew)); exact HO_8.out) hb); have n1_ := Aside0.mk (blk_below (g := gb266) (o := .cells #[.slice A0_0 l0_0.length c0_0, .slice A0_1 l0_1.length c0_1, .slice A0_2 l0_2.length c0_2, .int .i64 a0_3, .int .i64 a0_4] 55 (0, 0)) (by (with_reducible repeat (first | refine blk_drewN ?_ _ | refine blk_drew ?_ | refine blk_alloc ?_ _)); exact BK266.out) hb); have n2_ := Aside0.mk (blk_below (g := gb267) (o := .cells #[.int .i64 x268000_1, .int .i64 x268001_1] 47 (0, 0)) (by (with_reducible repeat (first | refine blk_drewN ?_ _ | refine blk_drew ?_ | refine blk_alloc ?_ _)); exact BK267.out) hb); have n3_ := Aside0.mk (blk_below (g := gb268) (o := .cells #[.int .i64 x269000_1, .int .i64 x269001_1] 47 (0, 0)) (by (with_reducible repeat (first | refine blk_drewN ?_ _ | refine blk_drew ?_ | refine blk_alloc ?_ _)); exact BK268.out) hb); have n4_ := Aside0.mk (blk_below (g := gb270) (o := .cells #[.int .i64 ((rd_T49 l1 x16_1).f0), .int .i64 ((rd_T49 l1 x16_1).f1), .bool ((rd_T49 l1 x16_1).f2)] 49 (0, 0)) (by (with_reducible repeat (first | refine blk_drewN ?_ _ | refine blk_drew ?_ | refine blk_alloc ?_ _)); exact BK270.out) hb); have n5_ := Aside0.mk (below_step (by repeat (first | (with_reducible first | exact HB.out | apply below_alloc | apply pw_below_drewN | apply below_drew1 | refine below_set ?_ GE266.out | refine below_set ?_ GE267.out | refine below_set ?_ GE268.out | refine below_set ?_ GE270.out) | exact HB.out)) hb); have n6_ := Aside0.mk (hbox); have n7_ := Aside0.mk ((by rw [hg]; exact (below_size (by repeat (first | (with_reducible first | exact HB.out | apply below_alloc | apply pw_below_drewN | apply below_drew1 | refine below_set ?_ GE266.out | refine below_set ?_ GE267.out | refine below_set ?_ GE268.out | refine below_set ?_ GE270.out) | exact HB.out))) : w.heap.size ≤ gb275)); have n8_ := Aside0.mk ((by rw [hg]; exact (below_size (by repeat (first | (with_reducible first | exact HB.out | apply below_alloc | apply pw_below_drewN | apply below_drew1 | refine below_set ?_ GE266.out | refine below_set ?_ GE267.out | refine below_set ?_ GE268.out | refine below_set ?_ GE270.out) | exact HB.out))) : w.heap.size ≤ gb275)); have n9_ := Aside0.mk ((by rw [hg]; exact Nat.ne_of_lt (blk_lt (g := gb266) (o := .cells #[.slice A0_0 l0_0.length c0_0, .slice A0_1 l0_1.length c0_1, .slice A0_2 l0_2.length c0_2, .int .i64 a0_3, .int .i64 a0_4] 55 (0, 0)) (by (with_reducible repeat (first | refine blk_drewN ?_ _ | refine blk_drew ?_ | refine blk_alloc ?_ _)); exact BK266.out)) : gb266 ≠ gb275)); have n10_ := Aside0.mk ((by rw [hg]; exact Nat.ne_of_gt (blk_lt (g := gb266) (o := .cells #[.slice A0_0 l0_0.length c0_0, .slice A0_1 l0_1.length c0_1, .slice A0_2 l0_2.length c0_2, .int .i64 a0_3, .int .i64 a0_4] 55 (0, 0)) (by (with_reducible repeat (first | refine blk_drewN ?_ _ | refine blk_drew ?_ | refine blk_alloc ?_ _)); exact BK266.out)) : gb275 ≠ gb266)); have n11_ := Aside0.mk ((by rw [hg]; exact Nat.ne_of_lt (blk_lt (g := gb267) (o := .cells #[.int .i64 x268000_1, .int .i64 x268001_1] 47 (0, 0)) (by (with_reducible repeat (first | refine blk_drewN ?_ _ | refine blk_drew ?_ | refine blk_alloc ?_ _)); exact BK267.out)) : gb267 ≠ gb275)); have n12_ := Aside0.mk ((by rw [hg]; exact Nat.ne_of_gt (blk_lt (g := gb267) (o := .cells #[.int .i64 x268000_1, .int .i64 x268001_1] 47 (0, 0)) (by (with_reducible repeat (first | refine blk_drewN ?_ _ | refine blk_drew ?_ | refine blk_alloc ?_ _)); exact BK267.out)) : gb275 ≠ gb267)); have n13_ := Aside0.mk ((by rw [hg]; exact Nat.ne_of_lt (blk_lt (g := gb268) (o := .cells #[.int .i64 x269000_1, .int .i64 x269001_1] 47 (0, 0)) (by (with_reducible repeat (first | refine blk_drewN ?_ _ | refine blk_drew ?_ | refine blk_alloc ?_ _)); exact BK268.out)) : gb268 ≠ gb275)); have n14_ := Aside0.mk ((by rw [hg]; exact Nat.ne_of_gt (blk_lt (g := gb268) (o := .cells #[.int .i64 x269000_1, .int .i64 x269001_1] 47 (0, 0)) (by (with_reducible repeat (first | refine blk_drewN ?_ _ | refine blk_drew ?_ | refine blk_alloc ?_ _)); exact BK268.out)) : gb275 ≠ gb268)); have n15_ := Aside0.mk ((by rw [hg]; exact Nat.ne_of_lt (blk_lt (g := gb270) (o := .cells #[.int .i64 ((rd_T49 l1 x16_1).f0), .int .i64 ((rd_T49 l1 x16_1).f1), .bool ((rd_T49 l1 x16_1).f2)] 49 (0, 0)) (by (with_reducible repeat (first | refine blk_drewN ?_ _ | refine blk_drew ?_ | refine blk_alloc ?_ _)); exact BK270.out)) : gb270 ≠ gb275)); have n16_ := Aside0.mk ((by rw [hg]; exact Nat.ne_of_gt (blk_lt (g := gb270) (o := .cells #[.int .i64 ((rd_T49 l1 x16_1).f0), .int .i64 ((rd_T49 l1 x16_1).f1), .bool ((rd_T49 l1 x16_1).f2)] 49 (0, 0)) (by (with_reducible repeat (first | refine blk_drewN ?_ _ | refine blk_drew ?_ | refine blk_alloc ?_ _)); exact BK270.out)) : gb275 ≠ gb270)); clear HO_8; clear BK266; clear BK267; clear BK268; clear BK270; clear HB; have HO_8 := n0_; have BK266 := n1_; have BK267 := n2_; have BK268 := n3_; have BK270 := n4_; have HB := n5_; have BK275 := n6_; have GW275 := n7_; have GE275 := n8_; have NB266_275 := n9_; have NB275_266 := n10_; have NB267_275 := n11_; have NB275_267 := n12_; have NB268_275 := n13_; have NB275_268 := n14_; have NB270_275 := n15_; have NB275_270 := n16_; clear n0_ n1_ n2_ n3_ n4_ n5_ n6_ n7_ n8_ n9_ n10_ n11_ n12_ n13_ n14_ n15_ n16_; clear hb hbox hg; have hnb46 := NB275_266.out; have hnc46 := NB266_275.out; have hnb47 := NB275_267.out; have hnc47 := NB267_275.out; have hnb48 := NB275_268.out; have hnc48 := NB268_275.out; have hnb49 := NB275_270.out; have hnc49 := NB270_275.out; have hcz50_0 : w45.cell? ⟨gb275, 0, none⟩ = some (.int .i64 0) := (blk_cell BK275.out 0).trans rfl; have hcz50_1 : w45.cell? ⟨gb275, 1, none⟩ = some (.int .i64 0) := (blk_cell BK275.out 1).trans rfl; have hfz50_0 := blk_frozen BK275.out 0; have hfz50_1 := blk_frozen BK275.out 1; have hcz51_0 : w45.cell? ⟨gb267, 0, none⟩ = some (.int .i64 x268000_1) := (blk_cell BK267.out 0).trans rfl; have hcz51_1 : w45.cell? ⟨gb267, 1, none⟩ = some (.int .i64 x268001_1) := (blk_cell BK267.out 1).trans rfl; have hfz51_0 := blk_frozen BK267.out 0; have hfz51_1 := blk_frozen BK267.out 1))
              refine bodyPost_ret (results_list (rs := [.tmp 4, .cell 5 47, .tmp 6]) rfl (by simp) (.tmp (.cell gb267 47 #[.int .i64 0, .int .i64 0] (0, 0) _ rfl (by (with_reducible repeat (first | refine blk_drewN ?_ _ | refine blk_drew ?_ | refine blk_alloc ?_ _)); refine blk_put (cs := #[.int .i64 0, .int .i64 x268001_1]) ?_ 1 _ rfl; (with_reducible repeat (first | refine blk_drewN ?_ _ | refine blk_drew ?_ | refine blk_alloc ?_ _)); refine blk_put (cs := #[.int .i64 x268000_1, .int .i64 x268001_1]) ?_ 0 _ rfl; (with_reducible repeat (first | refine blk_drewN ?_ _ | refine blk_drew ?_ | refine blk_alloc ?_ _)); refine blk_far ?_ NB267_275.out _; (with_reducible repeat (first | refine blk_drewN ?_ _ | refine blk_drew ?_ | refine blk_alloc ?_ _)); refine blk_far ?_ NB267_275.out _; (with_reducible repeat (first | refine blk_drewN ?_ _ | refine blk_drew ?_ | refine blk_alloc ?_ _)); exact BK267.out) Try.underlying47 rfl (by kernel_rfl) (.tmp .nil)))) rfl ?_
              exact ⟨_, by first | rfl | (simp [errW_none, errW_some] <;> rfl) | (simp [*, errW_none, errW_some] <;> rfl), by first | exact Kd.R_nil _ _ _ _ _ | exact Kd.N_nil _ _ _ _ _ | exact Kd.V_nil _ _ _ _ _ | exact Kd.Q_nil _ _ _ _ _ | exact Kd.S_nil _ _ _ _ _, by repeat (first | (with_reducible first | exact HB.out | apply below_alloc | apply pw_below_drewN | apply below_drew1 | refine below_set ?_ GE266.out | refine below_set ?_ GE267.out | refine below_set ?_ GE268.out | refine below_set ?_ GE270.out | refine below_set ?_ GE275.out) | exact HB.out)⟩
          · rw [if_neg c8] at H
            exact absurd H (by simp)
        · rw [if_neg c7] at H
          exact absurd H (by simp)
      · rw [if_neg c6] at H
        have c6b0 : decide (x16_1 < (l1.length : Int)) = false := decide_eq_false c6
        clear c6
        simp only [Option.some.injEq, Prod.mk.injEq] at H
        obtain ⟨rfl, rfl, rfl, rfl⟩ := H
        try go_wp2
        have n0_ := Aside0.mk (Kd.R_drew HO_8.out)
        have n1_ := Aside0.mk (blk_drew BK266.out)
        have n2_ := Aside0.mk (blk_drew BK267.out)
        have n3_ := Aside0.mk (blk_drew BK268.out)
        have n4_ := Aside0.mk (below_drew1 HB.out)
        clear HO_8
        clear BK266
        clear BK267
        clear BK268
        clear HB
        have HO_8 := n0_
        have BK266 := n1_
        have BK267 := n2_
        have BK268 := n3_
        have HB := n4_
        clear n0_ n1_ n2_ n3_ n4_
        refine start_ (n := 5) (S := fun w' => w'.cell? ⟨gb268, 0, none⟩ = some (.int .i64 x269000_1) ∧ w'.cell? ⟨gb268, 1, none⟩ = some (.int .i64 x269001_1)) (ds := []) #[false, false, false, false, false] (by kernel_rfl) rfl rfl ⟨(blk_cell BK268.out 0).trans rfl, (blk_cell BK268.out 1).trans rfl⟩ (fun hHeld => ?_)
        generalize wr.drew = w52 at HO_8 BK266 BK267 BK268 HB hHeld ⊢
        refine pure_ (i := 0) (N := some 43) (v := ?_) (a' := ?_) #[true, false, false, false, false] rfl rfl (by kernel_rfl) (fun _ _ _ h => h) (Or.inl ⟨by rfl, ?_⟩) ?_ ?_
        rotate_left
        · intro w'
          go_simp
          with_reducible rfl
        rotate_left
        · simp only [Act.put, List.setIfInBounds_toArray, List.set_cons_zero, List.set_cons_succ, i64_w, i32_w]
          rfl
        refine pure_ (i := 2) (N := some 4) (v := ?_) (a' := ?_) #[true, false, true, false, false] rfl rfl (by kernel_rfl) (fun _ _ _ h => h) (Or.inl ⟨by rfl, ?_⟩) ?_ ?_
        rotate_left
        · intro w'
          go_simp
          with_reducible rfl
        rotate_left
        · simp only [Act.put, List.setIfInBounds_toArray, List.set_cons_zero, List.set_cons_succ, i64_w, i32_w]
          rfl
        refine take_ (i := 1) (N := some 44) (v := ?_) (a' := ?_) #[true, true, true, false, false] rfl rfl (by kernel_rfl) (fun _ _ _ h => h) (Or.inl ⟨by rfl, ?_⟩) hHeld ?_ ?_
        rotate_left
        · rintro w' ⟨s0, s1⟩
          go_simp
          with_reducible rfl
        rotate_left
        · simp only [Act.put, List.setIfInBounds_toArray, List.set_cons_zero, List.set_cons_succ, i64_w, i32_w]
          rfl
        refine one_ (i := 3) (N := none) #[true, true, true, true, false] rfl rfl (by kernel_rfl) (by decide) (fun K hK => ?_)
        have hs53 : w52.cell? ⟨gb267, 0, none⟩ = some (.int .i64 x268000_1) := (blk_cell BK267.out 0).trans rfl
        have hfs53 := blk_frozen BK267.out 0
        have hns53_0 := NB266_267.out
        have hns53_2 := NB268_267.out
        have hms53_0 := NB267_266.out
        have hms53_2 := NB267_268.out
        have hs54 : w52.cell? ⟨gb267, 1, none⟩ = some (.int .i64 x268001_1) := (blk_cell BK267.out 1).trans rfl
        have hfs54 := blk_frozen BK267.out 1
        have hns54_0 := NB266_267.out
        have hns54_2 := NB268_267.out
        have hms54_0 := NB267_266.out
        have hms54_2 := NB267_268.out
        refine skip_ (w1 := ?_) (by rfl) rfl ?_ ?_
        rotate_left
        · go_simp
          rfl
        refine hK.out _ _ ⟨((cell_far (p := ⟨gb267, _, none⟩) NB268_267.out _).trans (((cell_far (p := ⟨gb267, _, none⟩) NB268_267.out _).trans (hHeld.1)))), ((cell_far (p := ⟨gb267, _, none⟩) NB268_267.out _).trans (((cell_far (p := ⟨gb267, _, none⟩) NB268_267.out _).trans (hHeld.2))))⟩ (fun hHeld => ?_)
        clear hK K
        refine pure_ (i := 4) (N := some 6) (v := ?_) (a' := ?_) #[true, true, true, true, true] rfl rfl (by kernel_rfl) (fun _ _ _ h => h) (Or.inl ⟨by rfl, ?_⟩) ?_ ?_
        rotate_left
        · intro w'
          go_simp
          with_reducible rfl
        rotate_left
        · simp only [Act.put, List.setIfInBounds_toArray, List.set_cons_zero, List.set_cons_succ, i64_w, i32_w]
          rfl
        refine done_ (by kernel_rfl) ?_
        try go_wp2
        refine bodyPost_ret (results_list (rs := [.tmp 4, .cell 5 47, .tmp 6]) rfl (by simp) (.tmp (.cell gb267 47 #[.int .i64 x269000_1, .int .i64 x269001_1] (0, 0) _ rfl (by (with_reducible repeat (first | refine blk_drewN ?_ _ | refine blk_drew ?_ | refine blk_alloc ?_ _)); refine blk_put (cs := #[.int .i64 x269000_1, .int .i64 x268001_1]) ?_ 1 _ rfl; (with_reducible repeat (first | refine blk_drewN ?_ _ | refine blk_drew ?_ | refine blk_alloc ?_ _)); refine blk_put (cs := #[.int .i64 x268000_1, .int .i64 x268001_1]) ?_ 0 _ rfl; (with_reducible repeat (first | refine blk_drewN ?_ _ | refine blk_drew ?_ | refine blk_alloc ?_ _)); exact BK267.out) Try.underlying47 rfl (by kernel_rfl) (.tmp .nil)))) rfl ?_
        exact ⟨_, by first | rfl | (simp [errW_none, errW_some] <;> rfl) | (simp [*, errW_none, errW_some] <;> rfl), by (with_reducible repeat (first | apply Kd.R_alloc | apply Kd.R_drewN | apply Kd.R_drew)); exact Kd.R_mono (Kd.R_far (p := ⟨gb267, 1, none⟩) (Kd.R_far (p := ⟨gb267, 0, none⟩) (Kd.R_types HO_8.out BK267.out (by decide)) (fun _ hk => hk.2) (.int .i64 x269000_1)) (fun _ hk => hk.2) (.int .i64 x269001_1)) (fun _ hk => trivial), by repeat (first | (with_reducible first | exact HB.out | apply below_alloc | apply pw_below_drewN | apply below_drew1 | refine below_set ?_ GE266.out | refine below_set ?_ GE267.out | refine below_set ?_ GE268.out) | exact HB.out)⟩

end Go.Proofs.Ytfiomckebicphaa.X
