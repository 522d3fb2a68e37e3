-- laid by the session's own program (xprint.py) out of Lean's print of the program; Lean checks it
import Derived.Test.YthfkfageehkhcaaX0
import Derived.Test.YthfkfageehkhcaaX27
import Derived.Test.YthfkfageehkhcaaX31
namespace Go.Proofs.Ythfkfageehkhcaa.X
open Go.RowKit Go.Proofs.YthfkfageehkhcaaW.PrintWords Go.Proofs.YthfkfageehkhcaaW.PrintLast Go.Proofs.YthfkfageehkhcaaW.PrintMore
attribute [local go_sem] max2_int min2_int max_two min_two max_three min_three max_four min_four   -- for this text's walks alone
set_option linter.unusedVariables false
set_option linter.unusedSimpArgs false

/-! ### date_Back: function 30 -/
def date_Back.l0 : Nat → Int → Int → Int → Int → Option (Int × Int × Int × Int)
  | 0, _, _, _, _ => none
  | k + 1, x5, x285000, x285001, x285002 => if x5 < 3 then ((date_Workday.f k x285000 x285001 x285002).bind fun t286 => (if t286 = true then (some (x285000, x285001, x285002, 0)) else ((date_Add.f k x285000 x285001 x285002 (-1)).bind fun bt287 => (if bt287.2.2.2 = 0 then (date_Back.l0 k (wrap64 (x5 + 1)) bt287.1 bt287.2.1 bt287.2.2.1) else (some (0, 0, 0, bt287.2.2.2)))))) else (some (0, 0, 0, 30))
def date_Back.f (k : Nat) (a0_0 : Int) (a0_1 : Int) (a0_2 : Int) : Option (Int × Int × Int × Int) := date_Back.l0 k 0 a0_0 a0_1 a0_2
theorem date_Back.mono_l : ∀ k, (∀ y0 y1 y2 y3, LeO (date_Back.l0 k y0 y1 y2 y3) (date_Back.l0 (k + 1) y0 y1 y2 y3))
  | 0 => fun _ _ _ _ r h => by simp [date_Back.l0] at h
  | k + 1 => by
    have ih0 := date_Back.mono_l k
    · intro y0 y1 y2 y3
      unfold date_Back.l0
      repeat' first
      | (with_reducible exact ih0 _ _ _ _)
      | (with_reducible exact date_Add.mono _ _ _ _ _)
      | (with_reducible exact date_Workday.mono _ _ _ _)
      | (with_reducible exact LeO.refl _)
      | (with_reducible exact LeO.none _)
      | (with_reducible refine LeO.ite ?_ ?_)
      | (with_reducible refine LeO.bind ?_ (fun _ => ?_))
      | exact ih0 _ _ _ _
      | exact date_Add.mono _ _ _ _ _
      | exact date_Workday.mono _ _ _ _
      | exact LeO.none _
      | refine LeO.ite ?_ ?_
      | refine LeO.bind ?_ (fun _ => ?_)
theorem date_Back.mono : ∀ a0 a1 a2 k, LeO (date_Back.f k a0 a1 a2) (date_Back.f (k + 1) a0 a1 a2) := by
  intro a0 a1 a2 k
  have ih0 := date_Back.mono_l k
  unfold date_Back.f
  repeat' first
      | (with_reducible exact ih0 _ _ _ _)
      | (with_reducible exact date_Add.mono _ _ _ _ _)
      | (with_reducible exact date_Workday.mono _ _ _ _)
      | (with_reducible exact LeO.refl _)
      | (with_reducible exact LeO.none _)
      | (with_reducible refine LeO.ite ?_ ?_)
      | (with_reducible refine LeO.bind ?_ (fun _ => ?_))
      | exact ih0 _ _ _ _
      | exact date_Add.mono _ _ _ _ _
      | exact date_Workday.mono _ _ _ _
      | exact LeO.none _
      | refine LeO.ite ?_ ?_
      | refine LeO.bind ?_ (fun _ => ?_)
set_option maxHeartbeats 8000000 in
set_option maxRecDepth 100000 in
theorem date_Back.calls (k : Nat) (a0_0 : Int) (a0_1 : Int) (a0_2 : Int) (r1 : Int) (r2 : Int) (r3 : Int) (r4 : Int) (w : World) (h : date_Back.f k a0_0 a0_1 a0_2 = some (r1, r2, r3, r4)) :
    Calls Try.prog 30 #[.agg #[.int .i64 a0_0, .int .i64 a0_1, .int .i64 a0_2]] w fun e w' => e = .returned (.tuple #[.agg #[.int .i64 r1, .int .i64 r2, .int .i64 r3], .int .i64 r4]) ∧ Below w.heap.size w w' := by
  have hu23 := Try.underlying23
  have HB := Aside0.mk (Below.refl w.heap.size w)
  have H : (date_Back.l0 k 0 a0_0 a0_1 a0_2) = some (r1, r2, r3, r4) := h
  clear h
  have H' := Aside0.mk H
  clear H
  go_enter Try.func30, Try.ntmps30
  go_wp2_with (first | ((with_reducible refine gate_dst (N := 1) rfl ?_); refine box_event ?hg (N := 1) ?hd (cs := #[.int .i64 a0_0, .int .i64 a0_1, .int .i64 a0_2]) (t := 23) ?hr ?_; (case hd => rfl); (case hg => rfl); (case hr => first | (go_simp; done) | (go_simp; rfl)); intro gb284 hg w2 hbox hb; have n0_ := Aside0.mk (below_step (by repeat (first | (with_reducible first | exact HB.out | apply below_alloc | apply pw_below_drewN | apply below_drew1) | exact HB.out)) hb); have n1_ := Aside0.mk (hbox); have n2_ := Aside0.mk ((by rw [hg]; exact (below_size (by repeat (first | (with_reducible first | exact HB.out | apply below_alloc | apply pw_below_drewN | apply below_drew1) | exact HB.out))) : w.heap.size ≤ gb284)); have n3_ := Aside0.mk ((by rw [hg]; exact (below_size (by repeat (first | (with_reducible first | exact HB.out | apply below_alloc | apply pw_below_drewN | apply below_drew1) | exact HB.out))) : w.heap.size ≤ gb284)); clear HB; have HB := n0_; have BK284 := n1_; have GW284 := n2_; have GE284 := n3_; clear n0_ n1_ n2_ n3_; clear hb hbox hg) | ((with_reducible refine gate_dst (N := 2) rfl ?_); refine box_event ?hg (N := 2) ?hd (cs := #[.int .i64 0, .int .i64 0, .int .i64 0]) (t := 23) ?hr ?_; (case hd => rfl); (case hg => rfl); (case hr => first | (go_simp; done) | (go_simp; rfl)); intro gb285 hg w3 hbox hb; have n0_ := Aside0.mk (blk_below (g := gb284) (o := .cells #[.int .i64 a0_0, .int .i64 a0_1, .int .i64 a0_2] 23 (0, 0)) (by (with_reducible repeat (first | refine blk_drewN ?_ _ | refine blk_drew ?_ | refine blk_alloc ?_ _)); exact BK284.out) hb); have n1_ := Aside0.mk (below_step (by repeat (first | (with_reducible first | exact HB.out | apply below_alloc | apply pw_below_drewN | apply below_drew1 | refine below_set ?_ GE284.out) | exact HB.out)) hb); have n2_ := Aside0.mk (hbox); have n3_ := Aside0.mk ((by rw [hg]; exact (below_size (by repeat (first | (with_reducible first | exact HB.out | apply below_alloc | apply pw_below_drewN | apply below_drew1 | refine below_set ?_ GE284.out) | exact HB.out))) : w.heap.size ≤ gb285)); have n4_ := Aside0.mk ((by rw [hg]; exact (below_size (by repeat (first | (with_reducible first | exact HB.out | apply below_alloc | apply pw_below_drewN | apply below_drew1 | refine below_set ?_ GE284.out) | exact HB.out))) : w.heap.size ≤ gb285)); have n5_ := Aside0.mk ((by rw [hg]; exact Nat.ne_of_lt (blk_lt (g := gb284) (o := .cells #[.int .i64 a0_0, .int .i64 a0_1, .int .i64 a0_2] 23 (0, 0)) (by (with_reducible repeat (first | refine blk_drewN ?_ _ | refine blk_drew ?_ | refine blk_alloc ?_ _)); exact BK284.out)) : gb284 ≠ gb285)); have n6_ := Aside0.mk ((by rw [hg]; exact Nat.ne_of_gt (blk_lt (g := gb284) (o := .cells #[.int .i64 a0_0, .int .i64 a0_1, .int .i64 a0_2] 23 (0, 0)) (by (with_reducible repeat (first | refine blk_drewN ?_ _ | refine blk_drew ?_ | refine blk_alloc ?_ _)); exact BK284.out)) : gb285 ≠ gb284)); clear BK284; clear HB; have BK284 := n0_; have HB := n1_; have BK285 := n2_; have GW285 := n3_; have GE285 := n4_; have NB284_285 := n5_; have NB285_284 := n6_; clear n0_ n1_ n2_ n3_ n4_ n5_ n6_; clear hb hbox hg))
  go_loopg [5] k (fun kq v5 w' => ∃ (x5_1 : Int) (x285000_1 : Int) (x285001_1 : Int) (x285002_1 : Int) (x286000_1 : Int) (x286001_1 : Int) (x286002_1 : Int), v5 = .int .i64 x5_1 ∧ Aside0 (date_Back.l0 kq x5_1 x285000_1 x285001_1 x285002_1 = some (r1, r2, r3, r4)) ∧ Aside0 (kq ≤ k) ∧ Aside0 (w'.heap[gb284]? = some (.cells #[.int .i64 x285000_1, .int .i64 x285001_1, .int .i64 x285002_1] 23 (0, 0))) ∧ Aside0 (w'.heap[gb285]? = some (.cells #[.int .i64 x286000_1, .int .i64 x286001_1, .int .i64 x286002_1] 23 (0, 0))) ∧ Aside0 (Below w.heap.size w w'))
  case atStart => exact ⟨(0), (a0_0), (a0_1), (a0_2), (0), (0), (0), (by first | rfl | (simp; done) | (simp [*]; done)), H', ⟨Nat.le_refl _⟩, ⟨by (with_reducible repeat (first | refine blk_drewN ?_ _ | refine blk_drew ?_ | refine blk_alloc ?_ _)); exact BK284.out⟩, ⟨by (with_reducible repeat (first | refine blk_drewN ?_ _ | refine blk_drew ?_ | refine blk_alloc ?_ _)); exact BK285.out⟩, ⟨by repeat (first | (with_reducible first | exact HB.out | apply below_alloc | apply pw_below_drewN | apply below_drew1 | refine below_set ?_ GE284.out | refine below_set ?_ GE285.out) | exact HB.out)⟩⟩
  case round =>
    clear H'
    try clear p2
    try clear c3
    obtain ⟨x5_1, x285000_1, x285001_1, x285002_1, x286000_1, x286001_1, x286002_1, rfl, HA, HK1, BK284, BK285, HB⟩ := hrel
    cases gk with
    | zero => exact absurd HA.out (by simp [date_Back.l0])
    | succ k1 =>
      have H := HA.out
      clear HA
      simp only [date_Back.l0] at H
      by_cases c4 : x5_1 < 3
      · rw [if_pos c4] at H
        have c4b0 : decide (x5_1 < 3) = true := decide_eq_true c4
        clear c4
        replace H := Option.bind_eq_some_iff.mp H
        obtain ⟨t286, A50, H⟩ := H
        replace H : (if t286 = true then (some (x285000_1, x285001_1, x285002_1, 0)) else ((date_Add.f k1 x285000_1 x285001_1 x285002_1 (-1)).bind fun bt287 => (if bt287.2.2.2 = 0 then (date_Back.l0 k1 (wrap64 (x5_1 + 1)) bt287.1 bt287.2.1 bt287.2.2.1) else (some (0, 0, 0, bt287.2.2.2))))) = some (r1, r2, r3, r4) := H
        have A5 := Aside0.mk A50
        clear A50
        by_cases c6 : t286 = true
        · subst c6
          have H1 : (some (x285000_1, x285001_1, x285002_1, 0)) = some (r1, r2, r3, r4) := by rw [if_pos rfl] at H; exact H
          clear H
          have H := H1
          clear H1
          simp only [Option.some.injEq, Prod.mk.injEq] at H
          obtain ⟨rfl, rfl, rfl, rfl⟩ := H
          have hnb7 := NB284_285.out
          have hnc7 := NB285_284.out
          have hcz8_0 : wr.cell? ⟨gb284, 0, none⟩ = some (.int .i64 x285000_1) := (blk_cell BK284.out 0).trans rfl
          have hcz8_1 : wr.cell? ⟨gb284, 1, none⟩ = some (.int .i64 x285001_1) := (blk_cell BK284.out 1).trans rfl
          have hcz8_2 : wr.cell? ⟨gb284, 2, none⟩ = some (.int .i64 x285002_1) := (blk_cell BK284.out 2).trans rfl
          have hfz8_0 := blk_frozen BK284.out 0
          have hfz8_1 := blk_frozen BK284.out 1
          have hfz8_2 := blk_frozen BK284.out 2
          go_wp2_with (first | ((with_reducible refine gate_callee (f := 29) rfl ?_); refine goesL_ (some 8) rfl rfl Try.func29 (by kernel_rfl) rfl #[.agg #[.int .i64 x285000_1, .int .i64 x285001_1, .int .i64 x285002_1]] rfl (by (try simp only [List.map_toArray, List.map_cons, List.map_nil]); first | done | rfl | (simp only [List.length_drop, List.length_take]; rfl)) ?_; (with_reducible refine (date_Workday.calls k1 x285000_1 x285001_1 x285002_1 true _ A5.out).mono ?_); rintro e w9 ⟨rfl, hb⟩; refine ⟨_, rfl, ?_⟩; have n0_ := Aside0.mk (blk_below (g := gb284) (o := .cells #[.int .i64 x285000_1, .int .i64 x285001_1, .int .i64 x285002_1] 23 (0, 0)) (by (with_reducible repeat (first | refine blk_drewN ?_ _ | refine blk_drew ?_ | refine blk_alloc ?_ _)); exact BK284.out) hb); have n1_ := Aside0.mk (blk_below (g := gb285) (o := .cells #[.int .i64 x286000_1, .int .i64 x286001_1, .int .i64 x286002_1] 23 (0, 0)) (by (with_reducible repeat (first | refine blk_drewN ?_ _ | refine blk_drew ?_ | refine blk_alloc ?_ _)); exact BK285.out) hb); have n2_ := Aside0.mk (below_step (by repeat (first | (with_reducible first | exact HB.out | apply below_alloc | apply pw_below_drewN | apply below_drew1 | refine below_set ?_ GE284.out | refine below_set ?_ GE285.out) | exact HB.out)) hb); clear BK284; clear BK285; clear HB; have BK284 := n0_; have BK285 := n1_; have HB := n2_; clear n0_ n1_ n2_; (try clear hb); (try clear hb2); (try clear hk); (try clear hi); have hcz10_0 : w9.cell? ⟨gb284, 0, none⟩ = some (.int .i64 x285000_1) := (blk_cell BK284.out 0).trans rfl; have hcz10_1 : w9.cell? ⟨gb284, 1, none⟩ = some (.int .i64 x285001_1) := (blk_cell BK284.out 1).trans rfl; have hcz10_2 : w9.cell? ⟨gb284, 2, none⟩ = some (.int .i64 x285002_1) := (blk_cell BK284.out 2).trans rfl; have hfz10_0 := blk_frozen BK284.out 0; have hfz10_1 := blk_frozen BK284.out 1; have hfz10_2 := blk_frozen BK284.out 2; have hcz11_0 : w9.cell? ⟨gb285, 0, none⟩ = some (.int .i64 x286000_1) := (blk_cell BK285.out 0).trans rfl; have hcz11_1 : w9.cell? ⟨gb285, 1, none⟩ = some (.int .i64 x286001_1) := (blk_cell BK285.out 1).trans rfl; have hcz11_2 : w9.cell? ⟨gb285, 2, none⟩ = some (.int .i64 x286002_1) := (blk_cell BK285.out 2).trans rfl; have hfz11_0 := blk_frozen BK285.out 0; have hfz11_1 := blk_frozen BK285.out 1; have hfz11_2 := blk_frozen BK285.out 2))
          refine bodyPost_ret (results_ct rfl _ _ gb285 23 #[.int .i64 x285000_1, .int .i64 x285001_1, .int .i64 x285002_1] (0, 0) _ rfl (by (with_reducible repeat (first | refine blk_drewN ?_ _ | refine blk_drew ?_ | refine blk_alloc ?_ _)); refine blk_put (cs := #[.int .i64 x285000_1, .int .i64 x285001_1, .int .i64 x286002_1]) ?_ 2 _ rfl; (with_reducible repeat (first | refine blk_drewN ?_ _ | refine blk_drew ?_ | refine blk_alloc ?_ _)); refine blk_put (cs := #[.int .i64 x285000_1, .int .i64 x286001_1, .int .i64 x286002_1]) ?_ 1 _ rfl; (with_reducible repeat (first | refine blk_drewN ?_ _ | refine blk_drew ?_ | refine blk_alloc ?_ _)); refine blk_put (cs := #[.int .i64 x286000_1, .int .i64 x286001_1, .int .i64 x286002_1]) ?_ 0 _ rfl; (with_reducible repeat (first | refine blk_drewN ?_ _ | refine blk_drew ?_ | refine blk_alloc ?_ _)); exact BK285.out) Try.underlying23 rfl (by kernel_rfl)) rfl ?_
          exact ⟨by first | rfl | (simp [errW_none, errW_some] <;> rfl) | (simp [*, errW_none, errW_some] <;> rfl), by repeat (first | (with_reducible first | exact HB.out | apply below_alloc | apply pw_below_drewN | apply below_drew1 | refine below_set ?_ GE284.out | refine below_set ?_ GE285.out) | exact HB.out)⟩
        · replace c6 := Bool.eq_false_iff.mpr c6
          subst c6
          have H1 : ((date_Add.f k1 x285000_1 x285001_1 x285002_1 (-1)).bind fun bt287 => (if bt287.2.2.2 = 0 then (date_Back.l0 k1 (wrap64 (x5_1 + 1)) bt287.1 bt287.2.1 bt287.2.2.1) else (some (0, 0, 0, bt287.2.2.2)))) = some (r1, r2, r3, r4) := by rw [if_neg (show ¬ (false = true) by decide)] at H; exact H
          clear H
          have H := H1
          clear H1
          replace H := Option.bind_eq_some_iff.mp H
          obtain ⟨⟨t287, t288, t289, t290⟩, A120, H⟩ := H
          replace H : (if t290 = 0 then (date_Back.l0 k1 (wrap64 (x5_1 + 1)) t287 t288 t289) else (some (0, 0, 0, t290))) = some (r1, r2, r3, r4) := H
          have A12 := Aside0.mk A120
          clear A120
          by_cases c13 : t290 = 0
          · rw [if_pos c13] at H
            have c13b0 : (t290 == 0) = true := beq_iff_eq.mpr c13
            have c13b1 : (t290 != 0) = false := bne_eq_false_iff_eq.mpr c13
            clear c13
            have H' := Aside0.mk H
            clear H
            have hnb14 := NB284_285.out
            have hnc14 := NB285_284.out
            have hcz15_0 : wr.cell? ⟨gb284, 0, none⟩ = some (.int .i64 x285000_1) := (blk_cell BK284.out 0).trans rfl
            have hcz15_1 : wr.cell? ⟨gb284, 1, none⟩ = some (.int .i64 x285001_1) := (blk_cell BK284.out 1).trans rfl
            have hcz15_2 : wr.cell? ⟨gb284, 2, none⟩ = some (.int .i64 x285002_1) := (blk_cell BK284.out 2).trans rfl
            have hfz15_0 := blk_frozen BK284.out 0
            have hfz15_1 := blk_frozen BK284.out 1
            have hfz15_2 := blk_frozen BK284.out 2
            go_wp2_with (first | ((with_reducible refine gate_callee (f := 29) rfl ?_); refine goesL_ (some 8) rfl rfl Try.func29 (by kernel_rfl) rfl #[.agg #[.int .i64 x285000_1, .int .i64 x285001_1, .int .i64 x285002_1]] rfl (by (try simp only [List.map_toArray, List.map_cons, List.map_nil]); first | done | rfl | (simp only [List.length_drop, List.length_take]; rfl)) ?_; (with_reducible refine (date_Workday.calls k1 x285000_1 x285001_1 x285002_1 false _ A5.out).mono ?_); rintro e w16 ⟨rfl, hb⟩; refine ⟨_, rfl, ?_⟩; have n0_ := Aside0.mk (blk_below (g := gb284) (o := .cells #[.int .i64 x285000_1, .int .i64 x285001_1, .int .i64 x285002_1] 23 (0, 0)) (by (with_reducible repeat (first | refine blk_drewN ?_ _ | refine blk_drew ?_ | refine blk_alloc ?_ _)); exact BK284.out) hb); have n1_ := Aside0.mk (blk_below (g := gb285) (o := .cells #[.int .i64 x286000_1, .int .i64 x286001_1, .int .i64 x286002_1] 23 (0, 0)) (by (with_reducible repeat (first | refine blk_drewN ?_ _ | refine blk_drew ?_ | refine blk_alloc ?_ _)); exact BK285.out) hb); have n2_ := Aside0.mk (below_step (by repeat (first | (with_reducible first | exact HB.out | apply below_alloc | apply pw_below_drewN | apply below_drew1 | refine below_set ?_ GE284.out | refine below_set ?_ GE285.out) | exact HB.out)) hb); clear BK284; clear BK285; clear HB; have BK284 := n0_; have BK285 := n1_; have HB := n2_; clear n0_ n1_ n2_; (try clear hb); (try clear hb2); (try clear hk); (try clear hi); have hcz17_0 : w16.cell? ⟨gb284, 0, none⟩ = some (.int .i64 x285000_1) := (blk_cell BK284.out 0).trans rfl; have hcz17_1 : w16.cell? ⟨gb284, 1, none⟩ = some (.int .i64 x285001_1) := (blk_cell BK284.out 1).trans rfl; have hcz17_2 : w16.cell? ⟨gb284, 2, none⟩ = some (.int .i64 x285002_1) := (blk_cell BK284.out 2).trans rfl; have hfz17_0 := blk_frozen BK284.out 0; have hfz17_1 := blk_frozen BK284.out 1; have hfz17_2 := blk_frozen BK284.out 2) | ((with_reducible refine gate_callee (f := 24) rfl ?_); refine goesL_ (some 12) rfl rfl Try.func24 (by kernel_rfl) rfl #[.agg #[.int .i64 x285000_1, .int .i64 x285001_1, .int .i64 x285002_1], .int .i64 (-1)] rfl (by (try simp only [List.map_toArray, List.map_cons, List.map_nil]); first | done | rfl | (simp only [List.length_drop, List.length_take]; rfl)) ?_; (with_reducible refine (date_Add.calls k1 x285000_1 x285001_1 x285002_1 (-1) t287 t288 t289 t290 _ A12.out).mono ?_); rintro e w18 ⟨rfl, hb⟩; refine ⟨_, rfl, ?_⟩; have n0_ := Aside0.mk (blk_below (g := gb284) (o := .cells #[.int .i64 x285000_1, .int .i64 x285001_1, .int .i64 x285002_1] 23 (0, 0)) (by (with_reducible repeat (first | refine blk_drewN ?_ _ | refine blk_drew ?_ | refine blk_alloc ?_ _)); exact BK284.out) hb); have n1_ := Aside0.mk (blk_below (g := gb285) (o := .cells #[.int .i64 x286000_1, .int .i64 x286001_1, .int .i64 x286002_1] 23 (0, 0)) (by (with_reducible repeat (first | refine blk_drewN ?_ _ | refine blk_drew ?_ | refine blk_alloc ?_ _)); exact BK285.out) hb); have n2_ := Aside0.mk (below_step (by repeat (first | (with_reducible first | exact HB.out | apply below_alloc | apply pw_below_drewN | apply below_drew1 | refine below_set ?_ GE284.out | refine below_set ?_ GE285.out) | exact HB.out)) hb); clear BK284; clear BK285; clear HB; have BK284 := n0_; have BK285 := n1_; have HB := n2_; clear n0_ n1_ n2_; (try clear hb); (try clear hb2); (try clear hk); (try clear hi); have hcz19_0 : w18.cell? ⟨gb284, 0, none⟩ = some (.int .i64 x285000_1) := (blk_cell BK284.out 0).trans rfl; have hcz19_1 : w18.cell? ⟨gb284, 1, none⟩ = some (.int .i64 x285001_1) := (blk_cell BK284.out 1).trans rfl; have hcz19_2 : w18.cell? ⟨gb284, 2, none⟩ = some (.int .i64 x285002_1) := (blk_cell BK284.out 2).trans rfl; have hfz19_0 := blk_frozen BK284.out 0; have hfz19_1 := blk_frozen BK284.out 1; have hfz19_2 := blk_frozen BK284.out 2))
            go_roundg k1
            case measure => have := HK1.out; omega
            case rel => exact ⟨(wrap64 (x5_1 + 1)), (t287), (t288), (t289), (x286000_1), (x286001_1), (x286002_1), (by first | rfl | (simp; done) | (simp [*]; done)), H', ⟨by have := HK1.out; omega⟩, ⟨by (with_reducible repeat (first | refine blk_drewN ?_ _ | refine blk_drew ?_ | refine blk_alloc ?_ _)); refine blk_put (cs := #[.int .i64 t287, .int .i64 t288, .int .i64 x285002_1]) ?_ 2 _ rfl; (with_reducible repeat (first | refine blk_drewN ?_ _ | refine blk_drew ?_ | refine blk_alloc ?_ _)); refine blk_put (cs := #[.int .i64 t287, .int .i64 x285001_1, .int .i64 x285002_1]) ?_ 1 _ rfl; (with_reducible repeat (first | refine blk_drewN ?_ _ | refine blk_drew ?_ | refine blk_alloc ?_ _)); refine blk_put (cs := #[.int .i64 x285000_1, .int .i64 x285001_1, .int .i64 x285002_1]) ?_ 0 _ rfl; (with_reducible repeat (first | refine blk_drewN ?_ _ | refine blk_drew ?_ | refine blk_alloc ?_ _)); exact BK284.out⟩, ⟨by (with_reducible repeat (first | refine blk_drewN ?_ _ | refine blk_drew ?_ | refine blk_alloc ?_ _)); refine blk_far ?_ NB285_284.out _; (with_reducible repeat (first | refine blk_drewN ?_ _ | refine blk_drew ?_ | refine blk_alloc ?_ _)); refine blk_far ?_ NB285_284.out _; (with_reducible repeat (first | refine blk_drewN ?_ _ | refine blk_drew ?_ | refine blk_alloc ?_ _)); refine blk_far ?_ NB285_284.out _; (with_reducible repeat (first | refine blk_drewN ?_ _ | refine blk_drew ?_ | refine blk_alloc ?_ _)); exact BK285.out⟩, ⟨by repeat (first | (with_reducible first | exact HB.out | apply below_alloc | apply pw_below_drewN | apply below_drew1 | refine below_set ?_ GE284.out | refine below_set ?_ GE285.out) | exact HB.out)⟩⟩
          · rw [if_neg c13] at H
            have c13b0 : (t290 == 0) = false := beq_eq_false_iff_ne.mpr c13
            have c13b1 : (t290 != 0) = true := bne_iff_ne.mpr c13
            simp only [Option.some.injEq, Prod.mk.injEq] at H
            obtain ⟨rfl, rfl, rfl, rfl⟩ := H
            have hnb20 := NB284_285.out
            have hnc20 := NB285_284.out
            have hcz21_0 : wr.cell? ⟨gb284, 0, none⟩ = some (.int .i64 x285000_1) := (blk_cell BK284.out 0).trans rfl
            have hcz21_1 : wr.cell? ⟨gb284, 1, none⟩ = some (.int .i64 x285001_1) := (blk_cell BK284.out 1).trans rfl
            have hcz21_2 : wr.cell? ⟨gb284, 2, none⟩ = some (.int .i64 x285002_1) := (blk_cell BK284.out 2).trans rfl
            have hfz21_0 := blk_frozen BK284.out 0
            have hfz21_1 := blk_frozen BK284.out 1
            have hfz21_2 := blk_frozen BK284.out 2
            go_wp2_with (first | ((with_reducible refine gate_callee (f := 29) rfl ?_); refine goesL_ (some 8) rfl rfl Try.func29 (by kernel_rfl) rfl #[.agg #[.int .i64 x285000_1, .int .i64 x285001_1, .int .i64 x285002_1]] rfl (by (try simp only [List.map_toArray, List.map_cons, List.map_nil]); first | done | rfl | (simp only [List.length_drop, List.length_take]; rfl)) ?_; (with_reducible refine (date_Workday.calls k1 x285000_1 x285001_1 x285002_1 false _ A5.out).mono ?_); rintro e w22 ⟨rfl, hb⟩; refine ⟨_, rfl, ?_⟩; have n0_ := Aside0.mk (blk_below (g := gb284) (o := .cells #[.int .i64 x285000_1, .int .i64 x285001_1, .int .i64 x285002_1] 23 (0, 0)) (by (with_reducible repeat (first | refine blk_drewN ?_ _ | refine blk_drew ?_ | refine blk_alloc ?_ _)); exact BK284.out) hb); have n1_ := Aside0.mk (blk_below (g := gb285) (o := .cells #[.int .i64 x286000_1, .int .i64 x286001_1, .int .i64 x286002_1] 23 (0, 0)) (by (with_reducible repeat (first | refine blk_drewN ?_ _ | refine blk_drew ?_ | refine blk_alloc ?_ _)); exact BK285.out) hb); have n2_ := Aside0.mk (below_step (by repeat (first | (with_reducible first | exact HB.out | apply below_alloc | apply pw_below_drewN | apply below_drew1 | refine below_set ?_ GE284.out | refine below_set ?_ GE285.out) | exact HB.out)) hb); clear BK284; clear BK285; clear HB; have BK284 := n0_; have BK285 := n1_; have HB := n2_; clear n0_ n1_ n2_; (try clear hb); (try clear hb2); (try clear hk); (try clear hi); have hcz23_0 : w22.cell? ⟨gb284, 0, none⟩ = some (.int .i64 x285000_1) := (blk_cell BK284.out 0).trans rfl; have hcz23_1 : w22.cell? ⟨gb284, 1, none⟩ = some (.int .i64 x285001_1) := (blk_cell BK284.out 1).trans rfl; have hcz23_2 : w22.cell? ⟨gb284, 2, none⟩ = some (.int .i64 x285002_1) := (blk_cell BK284.out 2).trans rfl; have hfz23_0 := blk_frozen BK284.out 0; have hfz23_1 := blk_frozen BK284.out 1; have hfz23_2 := blk_frozen BK284.out 2) | ((with_reducible refine gate_callee (f := 24) rfl ?_); refine goesL_ (some 12) rfl rfl Try.func24 (by kernel_rfl) rfl #[.agg #[.int .i64 x285000_1, .int .i64 x285001_1, .int .i64 x285002_1], .int .i64 (-1)] rfl (by (try simp only [List.map_toArray, List.map_cons, List.map_nil]); first | done | rfl | (simp only [List.length_drop, List.length_take]; rfl)) ?_; (with_reducible refine (date_Add.calls k1 x285000_1 x285001_1 x285002_1 (-1) t287 t288 t289 t290 _ A12.out).mono ?_); rintro e w24 ⟨rfl, hb⟩; refine ⟨_, rfl, ?_⟩; have n0_ := Aside0.mk (blk_below (g := gb284) (o := .cells #[.int .i64 x285000_1, .int .i64 x285001_1, .int .i64 x285002_1] 23 (0, 0)) (by (with_reducible repeat (first | refine blk_drewN ?_ _ | refine blk_drew ?_ | refine blk_alloc ?_ _)); exact BK284.out) hb); have n1_ := Aside0.mk (blk_below (g := gb285) (o := .cells #[.int .i64 x286000_1, .int .i64 x286001_1, .int .i64 x286002_1] 23 (0, 0)) (by (with_reducible repeat (first | refine blk_drewN ?_ _ | refine blk_drew ?_ | refine blk_alloc ?_ _)); exact BK285.out) hb); have n2_ := Aside0.mk (below_step (by repeat (first | (with_reducible first | exact HB.out | apply below_alloc | apply pw_below_drewN | apply below_drew1 | refine below_set ?_ GE284.out | refine below_set ?_ GE285.out) | exact HB.out)) hb); clear BK284; clear BK285; clear HB; have BK284 := n0_; have BK285 := n1_; have HB := n2_; clear n0_ n1_ n2_; (try clear hb); (try clear hb2); (try clear hk); (try clear hi); have hcz25_0 : w24.cell? ⟨gb284, 0, none⟩ = some (.int .i64 x285000_1) := (blk_cell BK284.out 0).trans rfl; have hcz25_1 : w24.cell? ⟨gb284, 1, none⟩ = some (.int .i64 x285001_1) := (blk_cell BK284.out 1).trans rfl; have hcz25_2 : w24.cell? ⟨gb284, 2, none⟩ = some (.int .i64 x285002_1) := (blk_cell BK284.out 2).trans rfl; have hfz25_0 := blk_frozen BK284.out 0; have hfz25_1 := blk_frozen BK284.out 1; have hfz25_2 := blk_frozen BK284.out 2; have hcz26_0 : w24.cell? ⟨gb285, 0, none⟩ = some (.int .i64 x286000_1) := (blk_cell BK285.out 0).trans rfl; have hcz26_1 : w24.cell? ⟨gb285, 1, none⟩ = some (.int .i64 x286001_1) := (blk_cell BK285.out 1).trans rfl; have hcz26_2 : w24.cell? ⟨gb285, 2, none⟩ = some (.int .i64 x286002_1) := (blk_cell BK285.out 2).trans rfl; have hfz26_0 := blk_frozen BK285.out 0; have hfz26_1 := blk_frozen BK285.out 1; have hfz26_2 := blk_frozen BK285.out 2))
            refine bodyPost_ret (results_ct rfl _ _ gb285 23 #[.int .i64 0, .int .i64 0, .int .i64 0] (0, 0) _ rfl (by (with_reducible repeat (first | refine blk_drewN ?_ _ | refine blk_drew ?_ | refine blk_alloc ?_ _)); refine blk_put (cs := #[.int .i64 0, .int .i64 0, .int .i64 x286002_1]) ?_ 2 _ rfl; (with_reducible repeat (first | refine blk_drewN ?_ _ | refine blk_drew ?_ | refine blk_alloc ?_ _)); refine blk_put (cs := #[.int .i64 0, .int .i64 x286001_1, .int .i64 x286002_1]) ?_ 1 _ rfl; (with_reducible repeat (first | refine blk_drewN ?_ _ | refine blk_drew ?_ | refine blk_alloc ?_ _)); refine blk_put (cs := #[.int .i64 x286000_1, .int .i64 x286001_1, .int .i64 x286002_1]) ?_ 0 _ rfl; (with_reducible repeat (first | refine blk_drewN ?_ _ | refine blk_drew ?_ | refine blk_alloc ?_ _)); refine blk_far ?_ NB285_284.out _; (with_reducible repeat (first | refine blk_drewN ?_ _ | refine blk_drew ?_ | refine blk_alloc ?_ _)); refine blk_far ?_ NB285_284.out _; (with_reducible repeat (first | refine blk_drewN ?_ _ | refine blk_drew ?_ | refine blk_alloc ?_ _)); refine blk_far ?_ NB285_284.out _; (with_reducible repeat (first | refine blk_drewN ?_ _ | refine blk_drew ?_ | refine blk_alloc ?_ _)); exact BK285.out) Try.underlying23 rfl (by kernel_rfl)) rfl ?_
            exact ⟨by first | rfl | (simp [errW_none, errW_some] <;> rfl) | (simp [*, errW_none, errW_some] <;> rfl), by repeat (first | (with_reducible first | exact HB.out | apply below_alloc | apply pw_below_drewN | apply below_drew1 | refine below_set ?_ GE284.out | refine below_set ?_ GE285.out) | exact HB.out)⟩
      · rw [if_neg c4] at H
        have c4b0 : decide (x5_1 < 3) = false := decide_eq_false c4
        clear c4
        simp only [Option.some.injEq, Prod.mk.injEq] at H
        obtain ⟨rfl, rfl, rfl, rfl⟩ := H
        have hnb27 := NB285_284.out
        have hnc27 := NB284_285.out
        have hcz28_0 : wr.cell? ⟨gb285, 0, none⟩ = some (.int .i64 x286000_1) := (blk_cell BK285.out 0).trans rfl
        have hcz28_1 : wr.cell? ⟨gb285, 1, none⟩ = some (.int .i64 x286001_1) := (blk_cell BK285.out 1).trans rfl
        have hcz28_2 : wr.cell? ⟨gb285, 2, none⟩ = some (.int .i64 x286002_1) := (blk_cell BK285.out 2).trans rfl
        have hfz28_0 := blk_frozen BK285.out 0
        have hfz28_1 := blk_frozen BK285.out 1
        have hfz28_2 := blk_frozen BK285.out 2
        go_wp2
        refine bodyPost_ret (results_ct rfl _ _ gb285 23 #[.int .i64 0, .int .i64 0, .int .i64 0] (0, 0) _ rfl (by (with_reducible repeat (first | refine blk_drewN ?_ _ | refine blk_drew ?_ | refine blk_alloc ?_ _)); refine blk_put (cs := #[.int .i64 0, .int .i64 0, .int .i64 x286002_1]) ?_ 2 _ rfl; (with_reducible repeat (first | refine blk_drewN ?_ _ | refine blk_drew ?_ | refine blk_alloc ?_ _)); refine blk_put (cs := #[.int .i64 0, .int .i64 x286001_1, .int .i64 x286002_1]) ?_ 1 _ rfl; (with_reducible repeat (first | refine blk_drewN ?_ _ | refine blk_drew ?_ | refine blk_alloc ?_ _)); refine blk_put (cs := #[.int .i64 x286000_1, .int .i64 x286001_1, .int .i64 x286002_1]) ?_ 0 _ rfl; (with_reducible repeat (first | refine blk_drewN ?_ _ | refine blk_drew ?_ | refine blk_alloc ?_ _)); exact BK285.out) Try.underlying23 rfl (by kernel_rfl)) rfl ?_
        exact ⟨by first | rfl | (simp [errW_none, errW_some] <;> rfl) | (simp [*, errW_none, errW_some] <;> rfl), by repeat (first | (with_reducible first | exact HB.out | apply below_alloc | apply pw_below_drewN | apply below_drew1 | refine below_set ?_ GE284.out | refine below_set ?_ GE285.out) | exact HB.out)⟩

end Go.Proofs.Ythfkfageehkhcaa.X
