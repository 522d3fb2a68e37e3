-- laid by the session's own program (xprint.py) out of Lean's print of the program; Lean checks it
import Derived.Test.YthfkfageehkhcaaX0
import Derived.Test.YthfkfageehkhcaaX1
import Derived.Test.YthfkfageehkhcaaX2
import Derived.Test.YthfkfageehkhcaaX4
import Derived.Test.YthfkfageehkhcaaX6
import Derived.Test.YthfkfageehkhcaaX7
namespace Go.Proofs.Ythfkfageehkhcaa.X
open Go.RowKit Go.Proofs.YthfkfageehkhcaaW.PrintWords Go.Proofs.YthfkfageehkhcaaW.PrintLast Go.Proofs.YthfkfageehkhcaaW.PrintMore
attribute [local go_sem] max2_int min2_int max_two min_two max_three min_three max_four min_four   -- for this text's walks alone
set_option linter.unusedVariables false
set_option linter.unusedSimpArgs false

attribute [local go_sem high] eqA23
/-! ### stipendref03_Of: function 19 -/
mutual
def stipendref03_Of.l0 : Nat → Int → Int → Option (Int × Int × Int × Bool)
  | 0, _, _ => none
  | k + 1, x0, x4 => if x4 ≤ 2199 then ((stipendref03_Long.f x4).bind fun t187 => (if x0 ≥ t187 then ((stipendref03_Long.f x4).bind fun t188 => (stipendref03_Of.l0 k (wrap64 (x0 - t188)) (wrap64 (x4 + 1)))) else (stipendref03_Of.l1 k x0 x4 1))) else (some (0, 0, 0, false))
def stipendref03_Of.l1 : Nat → Int → Int → Int → Option (Int × Int × Int × Bool)
  | 0, _, _, _ => none
  | k + 1, x0, x4, x5 => (stipendref03_Month.f x4 x5).bind fun t189 => (if x0 ≥ t189 then ((stipendref03_Month.f x4 x5).bind fun t190 => (stipendref03_Of.l1 k (wrap64 (x0 - t190)) x4 (wrap64 (x5 + 1)))) else (some (x4, x5, wrap64 (x0 + 1), true)))
end
def stipendref03_Of.f (k : Nat) (a0 : Int) : Option (Int × Int × Int × Bool) := if a0 < 0 then (some (0, 0, 0, false)) else (stipendref03_Of.l0 k a0 1900)
theorem stipendref03_Of.mono_l : ∀ k, (∀ y0 y1, LeO (stipendref03_Of.l0 k y0 y1) (stipendref03_Of.l0 (k + 1) y0 y1)) ∧ (∀ y0 y1 y2, LeO (stipendref03_Of.l1 k y0 y1 y2) (stipendref03_Of.l1 (k + 1) y0 y1 y2))
  | 0 => ⟨fun _ _ r h => by simp [stipendref03_Of.l0] at h, fun _ _ _ r h => by simp [stipendref03_Of.l1] at h⟩
  | k + 1 => by
    obtain ⟨ih0, ih1⟩ := stipendref03_Of.mono_l k
    refine ⟨?_, ?_⟩
    · intro y0 y1
      unfold stipendref03_Of.l0
      repeat' first
      | (with_reducible exact ih0 _ _)
      | (with_reducible exact ih1 _ _ _)
      | (with_reducible exact LeO.refl _)
      | (with_reducible exact LeO.none _)
      | (with_reducible refine LeO.ite ?_ ?_)
      | (with_reducible refine LeO.bind ?_ (fun _ => ?_))
      | exact ih0 _ _
      | exact ih1 _ _ _
      | exact LeO.none _
      | refine LeO.ite ?_ ?_
      | refine LeO.bind ?_ (fun _ => ?_)
    · intro y0 y1 y2
      unfold stipendref03_Of.l1
      repeat' first
      | (with_reducible exact ih0 _ _)
      | (with_reducible exact ih1 _ _ _)
      | (with_reducible exact LeO.refl _)
      | (with_reducible exact LeO.none _)
      | (with_reducible refine LeO.ite ?_ ?_)
      | (with_reducible refine LeO.bind ?_ (fun _ => ?_))
      | exact ih0 _ _
      | exact ih1 _ _ _
      | exact LeO.none _
      | refine LeO.ite ?_ ?_
      | refine LeO.bind ?_ (fun _ => ?_)
theorem stipendref03_Of.mono : ∀ a0 k, LeO (stipendref03_Of.f k a0) (stipendref03_Of.f (k + 1) a0) := by
  intro a0 k
  obtain ⟨ih0, ih1⟩ := stipendref03_Of.mono_l k
  unfold stipendref03_Of.f
  repeat' first
      | (with_reducible exact ih0 _ _)
      | (with_reducible exact ih1 _ _ _)
      | (with_reducible exact LeO.refl _)
      | (with_reducible exact LeO.none _)
      | (with_reducible refine LeO.ite ?_ ?_)
      | (with_reducible refine LeO.bind ?_ (fun _ => ?_))
      | exact ih0 _ _
      | exact ih1 _ _ _
      | exact LeO.none _
      | refine LeO.ite ?_ ?_
      | refine LeO.bind ?_ (fun _ => ?_)
set_option maxHeartbeats 8000000 in
set_option maxRecDepth 100000 in
theorem stipendref03_Of.calls (k : Nat) (a0 : Int) (r1 : Int) (r2 : Int) (r3 : Int) (r4 : Bool) (w : World) (h : stipendref03_Of.f k a0 = some (r1, r2, r3, r4)) :
    Calls Try.prog 19 #[.int .i64 a0] w fun e w' => e = .returned (.tuple #[.agg #[.int .i64 r1, .int .i64 r2, .int .i64 r3], .bool r4]) ∧ Below w.heap.size w w' := by
  have hu23 := Try.underlying23
  have HB := Aside0.mk (Below.refl w.heap.size w)
  have H : (if a0 < 0 then (some (0, 0, 0, false)) else (stipendref03_Of.l0 k a0 1900)) = some (r1, r2, r3, r4) := h
  clear h
  by_cases c2 : a0 < 0
  · rw [if_pos c2] at H
    have c2b0 : decide (a0 < 0) = true := decide_eq_true c2
    clear c2
    simp only [Option.some.injEq, Prod.mk.injEq] at H
    obtain ⟨rfl, rfl, rfl, rfl⟩ := H
    go_enter Try.func19, Try.ntmps19
    go_wp2_with (first | ((with_reducible refine gate_dst (N := 2) rfl ?_); refine box_event ?hg (N := 2) ?hd (cs := #[.int .i64 0, .int .i64 0, .int .i64 0]) (t := 23) ?hr ?_; (case hd => rfl); (case hg => rfl); (case hr => first | (go_simp; done) | (go_simp; rfl)); intro gb186 hg w3 hbox hb; have n0_ := Aside0.mk (below_step (by repeat (first | (with_reducible first | exact HB.out | apply below_alloc | apply pw_below_drewN | apply below_drew1) | exact HB.out)) hb); have n1_ := Aside0.mk (hbox); have n2_ := Aside0.mk ((by rw [hg]; exact (below_size (by repeat (first | (with_reducible first | exact HB.out | apply below_alloc | apply pw_below_drewN | apply below_drew1) | exact HB.out))) : w.heap.size ≤ gb186)); have n3_ := Aside0.mk ((by rw [hg]; exact (below_size (by repeat (first | (with_reducible first | exact HB.out | apply below_alloc | apply pw_below_drewN | apply below_drew1) | exact HB.out))) : w.heap.size ≤ gb186)); clear HB; have HB := n0_; have BK186 := n1_; have GW186 := n2_; have GE186 := n3_; clear n0_ n1_ n2_ n3_; clear hb hbox hg; have hcz4_0 : w3.cell? ⟨gb186, 0, none⟩ = some (.int .i64 0) := (blk_cell BK186.out 0).trans rfl; have hcz4_1 : w3.cell? ⟨gb186, 1, none⟩ = some (.int .i64 0) := (blk_cell BK186.out 1).trans rfl; have hcz4_2 : w3.cell? ⟨gb186, 2, none⟩ = some (.int .i64 0) := (blk_cell BK186.out 2).trans rfl; have hfz4_0 := blk_frozen BK186.out 0; have hfz4_1 := blk_frozen BK186.out 1; have hfz4_2 := blk_frozen BK186.out 2))
    refine bodyPost_ret (results_ct rfl _ _ gb186 23 #[.int .i64 0, .int .i64 0, .int .i64 0] (0, 0) _ rfl (by (with_reducible repeat (first | refine blk_drewN ?_ _ | refine blk_drew ?_ | refine blk_alloc ?_ _)); refine blk_put (cs := #[.int .i64 0, .int .i64 0, .int .i64 0]) ?_ 2 _ rfl; (with_reducible repeat (first | refine blk_drewN ?_ _ | refine blk_drew ?_ | refine blk_alloc ?_ _)); refine blk_put (cs := #[.int .i64 0, .int .i64 0, .int .i64 0]) ?_ 1 _ rfl; (with_reducible repeat (first | refine blk_drewN ?_ _ | refine blk_drew ?_ | refine blk_alloc ?_ _)); refine blk_put (cs := #[.int .i64 0, .int .i64 0, .int .i64 0]) ?_ 0 _ rfl; (with_reducible repeat (first | refine blk_drewN ?_ _ | refine blk_drew ?_ | refine blk_alloc ?_ _)); exact BK186.out) Try.underlying23 rfl (by kernel_rfl)) rfl ?_
    exact ⟨by first | rfl | (simp [errW_none, errW_some] <;> rfl) | (simp [*, errW_none, errW_some] <;> rfl), by repeat (first | (with_reducible first | exact HB.out | apply below_alloc | apply pw_below_drewN | apply below_drew1 | refine below_set ?_ GE186.out) | exact HB.out)⟩
  · rw [if_neg c2] at H
    have c2b0 : decide (a0 < 0) = false := decide_eq_false c2
    clear c2
    have H' := Aside0.mk H
    clear H
    go_enter Try.func19, Try.ntmps19
    go_wp2_with (first | ((with_reducible refine gate_dst (N := 2) rfl ?_); refine box_event ?hg (N := 2) ?hd (cs := #[.int .i64 0, .int .i64 0, .int .i64 0]) (t := 23) ?hr ?_; (case hd => rfl); (case hg => rfl); (case hr => first | (go_simp; done) | (go_simp; rfl)); intro gb186 hg w5 hbox hb; have n0_ := Aside0.mk (below_step (by repeat (first | (with_reducible first | exact HB.out | apply below_alloc | apply pw_below_drewN | apply below_drew1) | exact HB.out)) hb); have n1_ := Aside0.mk (hbox); have n2_ := Aside0.mk ((by rw [hg]; exact (below_size (by repeat (first | (with_reducible first | exact HB.out | apply below_alloc | apply pw_below_drewN | apply below_drew1) | exact HB.out))) : w.heap.size ≤ gb186)); have n3_ := Aside0.mk ((by rw [hg]; exact (below_size (by repeat (first | (with_reducible first | exact HB.out | apply below_alloc | apply pw_below_drewN | apply below_drew1) | exact HB.out))) : w.heap.size ≤ gb186)); clear HB; have HB := n0_; have BK186 := n1_; have GW186 := n2_; have GE186 := n3_; clear n0_ n1_ n2_ n3_; clear hb hbox hg))
    go_loopg [0, 4] k (fun kq v0 v4 w' => ∃ (x0_1 : Int) (x4_1 : Int) (x187000_1 : Int) (x187001_1 : Int) (x187002_1 : Int), v0 = .int .i64 x0_1 ∧ v4 = .int .i64 x4_1 ∧ Aside0 (stipendref03_Of.l0 kq x0_1 x4_1 = some (r1, r2, r3, r4)) ∧ Aside0 (kq ≤ k) ∧ Aside0 (w'.heap[gb186]? = some (.cells #[.int .i64 x187000_1, .int .i64 x187001_1, .int .i64 x187002_1] 23 (0, 0))) ∧ Aside0 (Below w.heap.size w w'))
    case atStart => exact ⟨(a0), (1900), (0), (0), (0), (by first | rfl | (simp; done) | (simp [*]; done)), (by first | rfl | (simp; done) | (simp [*]; done)), H', ⟨Nat.le_refl _⟩, ⟨by (with_reducible repeat (first | refine blk_drewN ?_ _ | refine blk_drew ?_ | refine blk_alloc ?_ _)); exact BK186.out⟩, ⟨by repeat (first | (with_reducible first | exact HB.out | apply below_alloc | apply pw_below_drewN | apply below_drew1 | refine below_set ?_ GE186.out) | exact HB.out)⟩⟩
    case round =>
      clear H'
      try clear c1
      try clear c2
      try clear c2b0
      try clear p2
      try clear hcz4_0
      try clear hcz4_1
      try clear hcz4_2
      try clear hfz4_0
      try clear hfz4_1
      try clear hfz4_2
      obtain ⟨x0_1, x4_1, x187000_1, x187001_1, x187002_1, rfl, rfl, HA, HK1, BK186, HB⟩ := hrel
      cases gk with
      | zero => exact absurd HA.out (by simp [stipendref03_Of.l0])
      | succ k1 =>
        have H := HA.out
        clear HA
        simp only [stipendref03_Of.l0] at H
        by_cases c6 : x4_1 ≤ 2199
        · rw [if_pos c6] at H
          have c6b0 : decide (x4_1 ≤ 2199) = true := decide_eq_true c6
          clear c6
          replace H := Option.bind_eq_some_iff.mp H
          obtain ⟨t187, A70, H⟩ := H
          replace H : (if x0_1 ≥ t187 then ((stipendref03_Long.f x4_1).bind fun t188 => (stipendref03_Of.l0 k1 (wrap64 (x0_1 - t188)) (wrap64 (x4_1 + 1)))) else (stipendref03_Of.l1 k1 x0_1 x4_1 1)) = some (r1, r2, r3, r4) := H
          have A7 := Aside0.mk A70
          clear A70
          by_cases c8 : x0_1 ≥ t187
          · rw [if_pos c8] at H
            have c8b0 : decide (t187 ≤ x0_1) = true := decide_eq_true c8
            clear c8
            replace H := Option.bind_eq_some_iff.mp H
            obtain ⟨t188, A90, H⟩ := H
            replace H : (stipendref03_Of.l0 k1 (wrap64 (x0_1 - t188)) (wrap64 (x4_1 + 1))) = some (r1, r2, r3, r4) := H
            have A9 := Aside0.mk A90
            clear A90
            have H' := Aside0.mk H
            clear H
            go_wp2_with (first | ((with_reducible refine gate_callee (f := 28) rfl ?_); refine goesL_ (some 15) rfl rfl Try.func28 (by kernel_rfl) rfl #[.int .i64 x4_1] rfl (by (try simp only [List.map_toArray, List.map_cons, List.map_nil]); first | done | rfl | (simp only [List.length_drop, List.length_take]; rfl)) ?_; (with_reducible refine (stipendref03_Long.calls x4_1 t187 _ A7.out).mono ?_); rintro e w' ⟨rfl, ⟨nd, rfl⟩⟩; refine ⟨_, rfl, ?_⟩) | ((with_reducible refine gate_callee (f := 28) rfl ?_); refine goesL_ (some 19) rfl rfl Try.func28 (by kernel_rfl) rfl #[.int .i64 x4_1] rfl (by (try simp only [List.map_toArray, List.map_cons, List.map_nil]); first | done | rfl | (simp only [List.length_drop, List.length_take]; rfl)) ?_; (with_reducible refine (stipendref03_Long.calls x4_1 t188 _ A9.out).mono ?_); rintro e w' ⟨rfl, ⟨nd, rfl⟩⟩; refine ⟨_, rfl, ?_⟩))
            go_roundg k1
            case measure => have := HK1.out; omega
            case rel => exact ⟨(wrap64 (x0_1 - t188)), (wrap64 (x4_1 + 1)), (x187000_1), (x187001_1), (x187002_1), (by first | rfl | (simp; done) | (simp [*]; done)), (by first | rfl | (simp; done) | (simp [*]; done)), H', ⟨by have := HK1.out; omega⟩, ⟨by (with_reducible repeat (first | refine blk_drewN ?_ _ | refine blk_drew ?_ | refine blk_alloc ?_ _)); exact BK186.out⟩, ⟨by repeat (first | (with_reducible first | exact HB.out | apply below_alloc | apply pw_below_drewN | apply below_drew1 | refine below_set ?_ GE186.out) | exact HB.out)⟩⟩
          · rw [if_neg c8] at H
            have c8b0 : decide (t187 ≤ x0_1) = false := decide_eq_false c8
            clear c8
            have H' := Aside0.mk H
            clear H
            go_wp2_with (first | ((with_reducible refine gate_callee (f := 28) rfl ?_); refine goesL_ (some 15) rfl rfl Try.func28 (by kernel_rfl) rfl #[.int .i64 x4_1] rfl (by (try simp only [List.map_toArray, List.map_cons, List.map_nil]); first | done | rfl | (simp only [List.length_drop, List.length_take]; rfl)) ?_; (with_reducible refine (stipendref03_Long.calls x4_1 t187 _ A7.out).mono ?_); rintro e w' ⟨rfl, ⟨nd, rfl⟩⟩; refine ⟨_, rfl, ?_⟩))
            go_loopg [0, 5] k1 (fun kq v0 v5 w' => ∃ (x0_2 : Int) (x5_2 : Int), v0 = .int .i64 x0_2 ∧ v5 = .int .i64 x5_2 ∧ Aside0 (stipendref03_Of.l1 kq x0_2 x4_1 x5_2 = some (r1, r2, r3, r4)) ∧ Aside0 (kq ≤ k1) ∧ Aside0 (w'.heap[gb186]? = some (.cells #[.int .i64 x187000_1, .int .i64 x187001_1, .int .i64 x187002_1] 23 (0, 0))) ∧ Aside0 (Below w.heap.size w w'))
            case atStart => exact ⟨(x0_1), (1), (by first | rfl | (simp; done) | (simp [*]; done)), (by first | rfl | (simp; done) | (simp [*]; done)), H', ⟨Nat.le_refl _⟩, ⟨by (with_reducible repeat (first | refine blk_drewN ?_ _ | refine blk_drew ?_ | refine blk_alloc ?_ _)); exact BK186.out⟩, ⟨by repeat (first | (with_reducible first | exact HB.out | apply below_alloc | apply pw_below_drewN | apply below_drew1 | refine below_set ?_ GE186.out) | exact HB.out)⟩⟩
            case round =>
              clear H'
              try clear c1
              try clear c2
              try clear c2b0
              try clear p2
              try clear c6
              try clear c6b0
              try clear p6
              try clear c8
              try clear c8b0
              try clear hcz4_0
              try clear hcz4_1
              try clear hcz4_2
              try clear hfz4_0
              try clear hfz4_1
              try clear hfz4_2
              try clear p2
              obtain ⟨x0_2, x5_2, rfl, rfl, HA, HK2, BK186, HB⟩ := hrel
              cases gk with
              | zero => exact absurd HA.out (by simp [stipendref03_Of.l1])
              | succ k2 =>
                have H := HA.out
                clear HA
                simp only [stipendref03_Of.l1] at H
                replace H := Option.bind_eq_some_iff.mp H
                obtain ⟨t189, A100, H⟩ := H
                replace H : (if x0_2 ≥ t189 then ((stipendref03_Month.f x4_1 x5_2).bind fun t190 => (stipendref03_Of.l1 k2 (wrap64 (x0_2 - t190)) x4_1 (wrap64 (x5_2 + 1)))) else (some (x4_1, x5_2, wrap64 (x0_2 + 1), true))) = some (r1, r2, r3, r4) := H
                have A10 := Aside0.mk A100
                clear A100
                by_cases c11 : x0_2 ≥ t189
                · rw [if_pos c11] at H
                  have c11b0 : decide (t189 ≤ x0_2) = true := decide_eq_true c11
                  clear c11
                  replace H := Option.bind_eq_some_iff.mp H
                  obtain ⟨t190, A120, H⟩ := H
                  replace H : (stipendref03_Of.l1 k2 (wrap64 (x0_2 - t190)) x4_1 (wrap64 (x5_2 + 1))) = some (r1, r2, r3, r4) := H
                  have A12 := Aside0.mk A120
                  clear A120
                  have H' := Aside0.mk H
                  clear H
                  go_wp2_with (first | ((with_reducible refine gate_callee (f := 16) rfl ?_); refine goesL_ (some 24) rfl rfl Try.func16 (by kernel_rfl) rfl #[.int .i64 x4_1, .int .i64 x5_2] rfl (by (try simp only [List.map_toArray, List.map_cons, List.map_nil]); first | done | rfl | (simp only [List.length_drop, List.length_take]; rfl)) ?_; (with_reducible refine (stipendref03_Month.calls x4_1 x5_2 t189 _ A10.out).mono ?_); rintro e w13 ⟨rfl, hb⟩; refine ⟨_, rfl, ?_⟩; have n0_ := Aside0.mk (blk_below (g := gb186) (o := .cells #[.int .i64 x187000_1, .int .i64 x187001_1, .int .i64 x187002_1] 23 (0, 0)) (by (with_reducible repeat (first | refine blk_drewN ?_ _ | refine blk_drew ?_ | refine blk_alloc ?_ _)); exact BK186.out) hb); have n1_ := Aside0.mk (below_step (by repeat (first | (with_reducible first | exact HB.out | apply below_alloc | apply pw_below_drewN | apply below_drew1 | refine below_set ?_ GE186.out) | exact HB.out)) hb); clear BK186; clear HB; have BK186 := n0_; have HB := n1_; clear n0_ n1_; (try clear hb); (try clear hb2); (try clear hk); (try clear hi)) | ((with_reducible refine gate_callee (f := 16) rfl ?_); refine goesL_ (some 29) rfl rfl Try.func16 (by kernel_rfl) rfl #[.int .i64 x4_1, .int .i64 x5_2] rfl (by (try simp only [List.map_toArray, List.map_cons, List.map_nil]); first | done | rfl | (simp only [List.length_drop, List.length_take]; rfl)) ?_; (with_reducible refine (stipendref03_Month.calls x4_1 x5_2 t190 _ A12.out).mono ?_); rintro e w14 ⟨rfl, hb⟩; refine ⟨_, rfl, ?_⟩; have n0_ := Aside0.mk (blk_below (g := gb186) (o := .cells #[.int .i64 x187000_1, .int .i64 x187001_1, .int .i64 x187002_1] 23 (0, 0)) (by (with_reducible repeat (first | refine blk_drewN ?_ _ | refine blk_drew ?_ | refine blk_alloc ?_ _)); exact BK186.out) hb); have n1_ := Aside0.mk (below_step (by repeat (first | (with_reducible first | exact HB.out | apply below_alloc | apply pw_below_drewN | apply below_drew1 | refine below_set ?_ GE186.out) | exact HB.out)) hb); clear BK186; clear HB; have BK186 := n0_; have HB := n1_; clear n0_ n1_; (try clear hb); (try clear hb2); (try clear hk); (try clear hi)))
                  go_roundg k2
                  case measure => have := HK1.out; have := HK2.out; omega
                  case rel => exact ⟨(wrap64 (x0_2 - t190)), (wrap64 (x5_2 + 1)), (by first | rfl | (simp; done) | (simp [*]; done)), (by first | rfl | (simp; done) | (simp [*]; done)), H', ⟨by have := HK1.out; have := HK2.out; omega⟩, ⟨by (with_reducible repeat (first | refine blk_drewN ?_ _ | refine blk_drew ?_ | refine blk_alloc ?_ _)); exact BK186.out⟩, ⟨by repeat (first | (with_reducible first | exact HB.out | apply below_alloc | apply pw_below_drewN | apply below_drew1 | refine below_set ?_ GE186.out) | exact HB.out)⟩⟩
                · rw [if_neg c11] at H
                  have c11b0 : decide (t189 ≤ x0_2) = false := decide_eq_false c11
                  clear c11
                  simp only [Option.some.injEq, Prod.mk.injEq] at H
                  obtain ⟨rfl, rfl, rfl, rfl⟩ := H
                  go_wp2_with (first | ((with_reducible refine gate_callee (f := 16) rfl ?_); refine goesL_ (some 24) rfl rfl Try.func16 (by kernel_rfl) rfl #[.int .i64 x4_1, .int .i64 x5_2] rfl (by (try simp only [List.map_toArray, List.map_cons, List.map_nil]); first | done | rfl | (simp only [List.length_drop, List.length_take]; rfl)) ?_; (with_reducible refine (stipendref03_Month.calls x4_1 x5_2 t189 _ A10.out).mono ?_); rintro e w15 ⟨rfl, hb⟩; refine ⟨_, rfl, ?_⟩; have n0_ := Aside0.mk (blk_below (g := gb186) (o := .cells #[.int .i64 x187000_1, .int .i64 x187001_1, .int .i64 x187002_1] 23 (0, 0)) (by (with_reducible repeat (first | refine blk_drewN ?_ _ | refine blk_drew ?_ | refine blk_alloc ?_ _)); exact BK186.out) hb); have n1_ := Aside0.mk (below_step (by repeat (first | (with_reducible first | exact HB.out | apply below_alloc | apply pw_below_drewN | apply below_drew1 | refine below_set ?_ GE186.out) | exact HB.out)) hb); clear BK186; clear HB; have BK186 := n0_; have HB := n1_; clear n0_ n1_; (try clear hb); (try clear hb2); (try clear hk); (try clear hi); have hcz16_0 : w15.cell? ⟨gb186, 0, none⟩ = some (.int .i64 x187000_1) := (blk_cell BK186.out 0).trans rfl; have hcz16_1 : w15.cell? ⟨gb186, 1, none⟩ = some (.int .i64 x187001_1) := (blk_cell BK186.out 1).trans rfl; have hcz16_2 : w15.cell? ⟨gb186, 2, none⟩ = some (.int .i64 x187002_1) := (blk_cell BK186.out 2).trans rfl; have hfz16_0 := blk_frozen BK186.out 0; have hfz16_1 := blk_frozen BK186.out 1; have hfz16_2 := blk_frozen BK186.out 2))
                  refine bodyPost_ret (results_ct rfl _ _ gb186 23 #[.int .i64 x4_1, .int .i64 x5_2, .int .i64 (wrap64 (x0_2 + 1))] (0, 0) _ rfl (by (with_reducible repeat (first | refine blk_drewN ?_ _ | refine blk_drew ?_ | refine blk_alloc ?_ _)); refine blk_put (cs := #[.int .i64 x4_1, .int .i64 x5_2, .int .i64 x187002_1]) ?_ 2 _ rfl; (with_reducible repeat (first | refine blk_drewN ?_ _ | refine blk_drew ?_ | refine blk_alloc ?_ _)); refine blk_put (cs := #[.int .i64 x4_1, .int .i64 x187001_1, .int .i64 x187002_1]) ?_ 1 _ rfl; (with_reducible repeat (first | refine blk_drewN ?_ _ | refine blk_drew ?_ | refine blk_alloc ?_ _)); refine blk_put (cs := #[.int .i64 x187000_1, .int .i64 x187001_1, .int .i64 x187002_1]) ?_ 0 _ rfl; (with_reducible repeat (first | refine blk_drewN ?_ _ | refine blk_drew ?_ | refine blk_alloc ?_ _)); exact BK186.out) Try.underlying23 rfl (by kernel_rfl)) rfl ?_
                  exact ⟨by first | rfl | (simp [errW_none, errW_some] <;> rfl) | (simp [*, errW_none, errW_some] <;> rfl), by repeat (first | (with_reducible first | exact HB.out | apply below_alloc | apply pw_below_drewN | apply below_drew1 | refine below_set ?_ GE186.out) | exact HB.out)⟩
        · rw [if_neg c6] at H
          have c6b0 : decide (x4_1 ≤ 2199) = false := decide_eq_false c6
          clear c6
          simp only [Option.some.injEq, Prod.mk.injEq] at H
          obtain ⟨rfl, rfl, rfl, rfl⟩ := H
          have hcz17_0 : wr.cell? ⟨gb186, 0, none⟩ = some (.int .i64 x187000_1) := (blk_cell BK186.out 0).trans rfl
          have hcz17_1 : wr.cell? ⟨gb186, 1, none⟩ = some (.int .i64 x187001_1) := (blk_cell BK186.out 1).trans rfl
          have hcz17_2 : wr.cell? ⟨gb186, 2, none⟩ = some (.int .i64 x187002_1) := (blk_cell BK186.out 2).trans rfl
          have hfz17_0 := blk_frozen BK186.out 0
          have hfz17_1 := blk_frozen BK186.out 1
          have hfz17_2 := blk_frozen BK186.out 2
          go_wp2
          refine bodyPost_ret (results_ct rfl _ _ gb186 23 #[.int .i64 0, .int .i64 0, .int .i64 0] (0, 0) _ rfl (by (with_reducible repeat (first | refine blk_drewN ?_ _ | refine blk_drew ?_ | refine blk_alloc ?_ _)); refine blk_put (cs := #[.int .i64 0, .int .i64 0, .int .i64 x187002_1]) ?_ 2 _ rfl; (with_reducible repeat (first | refine blk_drewN ?_ _ | refine blk_drew ?_ | refine blk_alloc ?_ _)); refine blk_put (cs := #[.int .i64 0, .int .i64 x187001_1, .int .i64 x187002_1]) ?_ 1 _ rfl; (with_reducible repeat (first | refine blk_drewN ?_ _ | refine blk_drew ?_ | refine blk_alloc ?_ _)); refine blk_put (cs := #[.int .i64 x187000_1, .int .i64 x187001_1, .int .i64 x187002_1]) ?_ 0 _ rfl; (with_reducible repeat (first | refine blk_drewN ?_ _ | refine blk_drew ?_ | refine blk_alloc ?_ _)); exact BK186.out) Try.underlying23 rfl (by kernel_rfl)) rfl ?_
          exact ⟨by first | rfl | (simp [errW_none, errW_some] <;> rfl) | (simp [*, errW_none, errW_some] <;> rfl), by repeat (first | (with_reducible first | exact HB.out | apply below_alloc | apply pw_below_drewN | apply below_drew1 | refine below_set ?_ GE186.out) | exact HB.out)⟩

/-! ### stipendlaw03_DateBack: function 4 -/
def stipendlaw03_DateBack.j0 : Nat → Int → Bool → Bool → Int → Int → Int → Option (Bool)
  | 0, _, _, _, _, _, _ => none
  | k + 1, x0, x6, x37, x197000, x197001, x197002 => if x37 = true then (some false) else (if x6 = true then ((date_Number.f k x197000 x197001 x197002).bind fun bt202 => (if bt202.2 = 0 then (some (bt202.1 == x0)) else (some false))) else (if x0 < 0 then (some true) else (some (decide (x0 ≥ 109573)))))
def stipendlaw03_DateBack.f (k : Nat) (a0 : Int) : Option (Bool) := (stipendlaw03_days.f k).bind fun t191 => (if t191 = true then ((date_Of.f k a0).bind fun bt192 => ((stipendref03_Of.f k a0).bind fun bt197 => (if (!(bt192.1 == bt197.1) || (!(bt192.2.1 == bt197.2.1) || (!(bt192.2.2.1 == bt197.2.2.1)))) = true then (stipendlaw03_DateBack.j0 k a0 bt197.2.2.2 true bt192.1 bt192.2.1 bt192.2.2.1) else (if ((bt192.2.2.2 == 0) != bt197.2.2.2) = true then (stipendlaw03_DateBack.j0 k a0 bt197.2.2.2 true bt192.1 bt192.2.1 bt192.2.2.1) else (if bt192.2.2.2 = 0 then (stipendlaw03_DateBack.j0 k a0 bt197.2.2.2 false bt192.1 bt192.2.1 bt192.2.2.1) else (stipendlaw03_DateBack.j0 k a0 bt197.2.2.2 (bt192.2.2.2 != 30) bt192.1 bt192.2.1 bt192.2.2.1)))))) else (some false))
theorem stipendlaw03_DateBack.mono_l : ∀ k, (∀ y0 y1 y2 y3 y4 y5, LeO (stipendlaw03_DateBack.j0 k y0 y1 y2 y3 y4 y5) (stipendlaw03_DateBack.j0 (k + 1) y0 y1 y2 y3 y4 y5))
  | 0 => fun _ _ _ _ _ _ r h => by simp [stipendlaw03_DateBack.j0] at h
  | k + 1 => by
    have ih0 := stipendlaw03_DateBack.mono_l k
    · intro y0 y1 y2 y3 y4 y5
      unfold stipendlaw03_DateBack.j0
      repeat' first
      | (with_reducible exact ih0 _ _ _ _ _ _)
      | (with_reducible exact date_Number.mono _ _ _ _)
      | (with_reducible exact date_Of.mono _ _)
      | (with_reducible exact stipendlaw03_days.mono _)
      | (with_reducible exact stipendref03_Of.mono _ _)
      | (with_reducible exact LeO.refl _)
      | (with_reducible exact LeO.none _)
      | (with_reducible refine LeO.ite ?_ ?_)
      | (with_reducible refine LeO.bind ?_ (fun _ => ?_))
      | exact ih0 _ _ _ _ _ _
      | exact date_Number.mono _ _ _ _
      | exact date_Of.mono _ _
      | exact stipendlaw03_days.mono _
      | exact stipendref03_Of.mono _ _
      | exact LeO.none _
      | refine LeO.ite ?_ ?_
      | refine LeO.bind ?_ (fun _ => ?_)
theorem stipendlaw03_DateBack.mono : ∀ a0 k, LeO (stipendlaw03_DateBack.f k a0) (stipendlaw03_DateBack.f (k + 1) a0) := by
  intro a0 k
  have ih0 := stipendlaw03_DateBack.mono_l k
  unfold stipendlaw03_DateBack.f
  repeat' first
      | (with_reducible exact ih0 _ _ _ _ _ _)
      | (with_reducible exact date_Number.mono _ _ _ _)
      | (with_reducible exact date_Of.mono _ _)
      | (with_reducible exact stipendlaw03_days.mono _)
      | (with_reducible exact stipendref03_Of.mono _ _)
      | (with_reducible exact LeO.refl _)
      | (with_reducible exact LeO.none _)
      | (with_reducible refine LeO.ite ?_ ?_)
      | (with_reducible refine LeO.bind ?_ (fun _ => ?_))
      | exact ih0 _ _ _ _ _ _
      | exact date_Number.mono _ _ _ _
      | exact date_Of.mono _ _
      | exact stipendlaw03_days.mono _
      | exact stipendref03_Of.mono _ _
      | exact LeO.none _
      | refine LeO.ite ?_ ?_
      | refine LeO.bind ?_ (fun _ => ?_)
set_option maxHeartbeats 8000000 in
set_option maxRecDepth 100000 in
theorem stipendlaw03_DateBack.calls (k : Nat) (a0 : Int) (r : Bool) (w : World) (h : stipendlaw03_DateBack.f k a0 = some r) :
    Calls Try.prog 4 #[.int .i64 a0] w fun e w' => e = .returned (.bool r) ∧ Below w.heap.size w w' := by
  have hu23 := Try.underlying23
  have HB := Aside0.mk (Below.refl w.heap.size w)
  have H : ((stipendlaw03_days.f k).bind fun t191 => (if t191 = true then ((date_Of.f k a0).bind fun bt192 => ((stipendref03_Of.f k a0).bind fun bt197 => (if (!(bt192.1 == bt197.1) || (!(bt192.2.1 == bt197.2.1) || (!(bt192.2.2.1 == bt197.2.2.1)))) = true then (stipendlaw03_DateBack.j0 k a0 bt197.2.2.2 true bt192.1 bt192.2.1 bt192.2.2.1) else (if ((bt192.2.2.2 == 0) != bt197.2.2.2) = true then (stipendlaw03_DateBack.j0 k a0 bt197.2.2.2 true bt192.1 bt192.2.1 bt192.2.2.1) else (if bt192.2.2.2 = 0 then (stipendlaw03_DateBack.j0 k a0 bt197.2.2.2 false bt192.1 bt192.2.1 bt192.2.2.1) else (stipendlaw03_DateBack.j0 k a0 bt197.2.2.2 (bt192.2.2.2 != 30) bt192.1 bt192.2.1 bt192.2.2.1)))))) else (some false))) = some r := h
  clear h
  replace H := Option.bind_eq_some_iff.mp H
  obtain ⟨t191, A20, H⟩ := H
  replace H : (if t191 = true then ((date_Of.f k a0).bind fun bt192 => ((stipendref03_Of.f k a0).bind fun bt197 => (if (!(bt192.1 == bt197.1) || (!(bt192.2.1 == bt197.2.1) || (!(bt192.2.2.1 == bt197.2.2.1)))) = true then (stipendlaw03_DateBack.j0 k a0 bt197.2.2.2 true bt192.1 bt192.2.1 bt192.2.2.1) else (if ((bt192.2.2.2 == 0) != bt197.2.2.2) = true then (stipendlaw03_DateBack.j0 k a0 bt197.2.2.2 true bt192.1 bt192.2.1 bt192.2.2.1) else (if bt192.2.2.2 = 0 then (stipendlaw03_DateBack.j0 k a0 bt197.2.2.2 false bt192.1 bt192.2.1 bt192.2.2.1) else (stipendlaw03_DateBack.j0 k a0 bt197.2.2.2 (bt192.2.2.2 != 30) bt192.1 bt192.2.1 bt192.2.2.1)))))) else (some false)) = some r := H
  have A2 := Aside0.mk A20
  clear A20
  by_cases c3 : t191 = true
  · subst c3
    have H1 : ((date_Of.f k a0).bind fun bt192 => ((stipendref03_Of.f k a0).bind fun bt197 => (if (!(bt192.1 == bt197.1) || (!(bt192.2.1 == bt197.2.1) || (!(bt192.2.2.1 == bt197.2.2.1)))) = true then (stipendlaw03_DateBack.j0 k a0 bt197.2.2.2 true bt192.1 bt192.2.1 bt192.2.2.1) else (if ((bt192.2.2.2 == 0) != bt197.2.2.2) = true then (stipendlaw03_DateBack.j0 k a0 bt197.2.2.2 true bt192.1 bt192.2.1 bt192.2.2.1) else (if bt192.2.2.2 = 0 then (stipendlaw03_DateBack.j0 k a0 bt197.2.2.2 false bt192.1 bt192.2.1 bt192.2.2.1) else (stipendlaw03_DateBack.j0 k a0 bt197.2.2.2 (bt192.2.2.2 != 30) bt192.1 bt192.2.1 bt192.2.2.1)))))) = some r := by rw [if_pos rfl] at H; exact H
    clear H
    have H := H1
    clear H1
    replace H := Option.bind_eq_some_iff.mp H
    obtain ⟨⟨t192, t193, t194, t195⟩, A40, H⟩ := H
    replace H : ((stipendref03_Of.f k a0).bind fun bt197 => (if (!(t192 == bt197.1) || (!(t193 == bt197.2.1) || (!(t194 == bt197.2.2.1)))) = true then (stipendlaw03_DateBack.j0 k a0 bt197.2.2.2 true t192 t193 t194) else (if ((t195 == 0) != bt197.2.2.2) = true then (stipendlaw03_DateBack.j0 k a0 bt197.2.2.2 true t192 t193 t194) else (if t195 = 0 then (stipendlaw03_DateBack.j0 k a0 bt197.2.2.2 false t192 t193 t194) else (stipendlaw03_DateBack.j0 k a0 bt197.2.2.2 (t195 != 30) t192 t193 t194))))) = some r := H
    have A4 := Aside0.mk A40
    clear A40
    replace H := Option.bind_eq_some_iff.mp H
    obtain ⟨⟨t197, t198, t199, t200⟩, A50, H⟩ := H
    replace H : (if (!(t192 == t197) || (!(t193 == t198) || (!(t194 == t199)))) = true then (stipendlaw03_DateBack.j0 k a0 t200 true t192 t193 t194) else (if ((t195 == 0) != t200) = true then (stipendlaw03_DateBack.j0 k a0 t200 true t192 t193 t194) else (if t195 = 0 then (stipendlaw03_DateBack.j0 k a0 t200 false t192 t193 t194) else (stipendlaw03_DateBack.j0 k a0 t200 (t195 != 30) t192 t193 t194)))) = some r := H
    have A5 := Aside0.mk A50
    clear A50
    have HC6 := Aside0.mk H
    clear H
    go_enter Try.func4, Try.ntmps4
    go_upto_region 5 with (first | ((with_reducible refine gate_callee (f := 10) rfl ?_); refine goesL_ (some 9) rfl rfl Try.func10 (by kernel_rfl) rfl #[] rfl (by (try simp only [List.map_toArray, List.map_cons, List.map_nil]); first | done | rfl | (simp only [List.length_drop, List.length_take]; rfl)) ?_; (with_reducible refine (stipendlaw03_days.calls k  true _ A2.out).mono ?_); rintro e w7 ⟨rfl, hb⟩; refine ⟨_, rfl, ?_⟩; have n0_ := Aside0.mk (below_step (by repeat (first | (with_reducible first | exact HB.out | apply below_alloc | apply pw_below_drewN | apply below_drew1) | exact HB.out)) hb); clear HB; have HB := n0_; clear n0_; (try clear hb); (try clear hb2); (try clear hk); (try clear hi)) | ((with_reducible refine gate_callee (f := 18) rfl ?_); refine goesL_ (some 13) rfl rfl Try.func18 (by kernel_rfl) rfl #[.int .i64 a0] rfl (by (try simp only [List.map_toArray, List.map_cons, List.map_nil]); first | done | rfl | (simp only [List.length_drop, List.length_take]; rfl)) ?_; (with_reducible refine (date_Of.calls k a0 t192 t193 t194 t195 _ A4.out).mono ?_); rintro e w8 ⟨rfl, hb⟩; refine ⟨_, rfl, ?_⟩; have n0_ := Aside0.mk (below_step (by repeat (first | (with_reducible first | exact HB.out | apply below_alloc | apply pw_below_drewN | apply below_drew1) | exact HB.out)) hb); clear HB; have HB := n0_; clear n0_; (try clear hb); (try clear hb2); (try clear hk); (try clear hi)) | ((with_reducible refine gate_dst (N := 3) rfl ?_); refine box_event ?hg (N := 3) ?hd (cs := #[.int .i64 0, .int .i64 0, .int .i64 0]) (t := 23) ?hr ?_; (case hd => rfl); (case hg => rfl); (case hr => first | (go_simp; done) | (go_simp; rfl)); intro gb196 hg w9 hbox hb; have n0_ := Aside0.mk (below_step (by repeat (first | (with_reducible first | exact HB.out | apply below_alloc | apply pw_below_drewN | apply below_drew1) | exact HB.out)) hb); have n1_ := Aside0.mk (hbox); have n2_ := Aside0.mk ((by rw [hg]; exact (below_size (by repeat (first | (with_reducible first | exact HB.out | apply below_alloc | apply pw_below_drewN | apply below_drew1) | exact HB.out))) : w.heap.size ≤ gb196)); have n3_ := Aside0.mk ((by rw [hg]; exact (below_size (by repeat (first | (with_reducible first | exact HB.out | apply below_alloc | apply pw_below_drewN | apply below_drew1) | exact HB.out))) : w.heap.size ≤ gb196)); clear HB; have HB := n0_; have BK196 := n1_; have GW196 := n2_; have GE196 := n3_; clear n0_ n1_ n2_ n3_; clear hb hbox hg; have hcz10_0 : w9.cell? ⟨gb196, 0, none⟩ = some (.int .i64 0) := (blk_cell BK196.out 0).trans rfl; have hcz10_1 : w9.cell? ⟨gb196, 1, none⟩ = some (.int .i64 0) := (blk_cell BK196.out 1).trans rfl; have hcz10_2 : w9.cell? ⟨gb196, 2, none⟩ = some (.int .i64 0) := (blk_cell BK196.out 2).trans rfl; have hfz10_0 := blk_frozen BK196.out 0; have hfz10_1 := blk_frozen BK196.out 1; have hfz10_2 := blk_frozen BK196.out 2) | ((with_reducible refine gate_callee (f := 19) rfl ?_); refine goesL_ (some 18) rfl rfl Try.func19 (by kernel_rfl) rfl #[.int .i64 a0] rfl (by (try simp only [List.map_toArray, List.map_cons, List.map_nil]); first | done | rfl | (simp only [List.length_drop, List.length_take]; rfl)) ?_; (with_reducible refine (stipendref03_Of.calls k a0 t197 t198 t199 t200 _ A5.out).mono ?_); rintro e w11 ⟨rfl, hb⟩; refine ⟨_, rfl, ?_⟩; have n0_ := Aside0.mk (blk_below (g := gb196) (o := .cells #[.int .i64 t192, .int .i64 t193, .int .i64 t194] 23 (0, 0)) (by (with_reducible repeat (first | refine blk_drewN ?_ _ | refine blk_drew ?_ | refine blk_alloc ?_ _)); refine blk_put (cs := #[.int .i64 t192, .int .i64 t193, .int .i64 0]) ?_ 2 _ rfl; (with_reducible repeat (first | refine blk_drewN ?_ _ | refine blk_drew ?_ | refine blk_alloc ?_ _)); refine blk_put (cs := #[.int .i64 t192, .int .i64 0, .int .i64 0]) ?_ 1 _ rfl; (with_reducible repeat (first | refine blk_drewN ?_ _ | refine blk_drew ?_ | refine blk_alloc ?_ _)); refine blk_put (cs := #[.int .i64 0, .int .i64 0, .int .i64 0]) ?_ 0 _ rfl; (with_reducible repeat (first | refine blk_drewN ?_ _ | refine blk_drew ?_ | refine blk_alloc ?_ _)); exact BK196.out) hb); have n1_ := Aside0.mk (below_step (by repeat (first | (with_reducible first | exact HB.out | apply below_alloc | apply pw_below_drewN | apply below_drew1 | refine below_set ?_ GE196.out) | exact HB.out)) hb); clear BK196; clear HB; have BK196 := n0_; have HB := n1_; clear n0_ n1_; (try clear hb); (try clear hb2); (try clear hk); (try clear hi)) | ((with_reducible refine gate_dst (N := 5) rfl ?_); refine box_event ?hg (N := 5) ?hd (cs := #[.int .i64 0, .int .i64 0, .int .i64 0]) (t := 23) ?hr ?_; (case hd => rfl); (case hg => rfl); (case hr => first | (go_simp; done) | (go_simp; rfl)); intro gb201 hg w12 hbox hb; have n0_ := Aside0.mk (blk_below (g := gb196) (o := .cells #[.int .i64 t192, .int .i64 t193, .int .i64 t194] 23 (0, 0)) (by (with_reducible repeat (first | refine blk_drewN ?_ _ | refine blk_drew ?_ | refine blk_alloc ?_ _)); exact BK196.out) hb); have n1_ := Aside0.mk (below_step (by repeat (first | (with_reducible first | exact HB.out | apply below_alloc | apply pw_below_drewN | apply below_drew1 | refine below_set ?_ GE196.out) | exact HB.out)) hb); have n2_ := Aside0.mk (hbox); have n3_ := Aside0.mk ((by rw [hg]; exact (below_size (by repeat (first | (with_reducible first | exact HB.out | apply below_alloc | apply pw_below_drewN | apply below_drew1 | refine below_set ?_ GE196.out) | exact HB.out))) : w.heap.size ≤ gb201)); have n4_ := Aside0.mk ((by rw [hg]; exact (below_size (by repeat (first | (with_reducible first | exact HB.out | apply below_alloc | apply pw_below_drewN | apply below_drew1 | refine below_set ?_ GE196.out) | exact HB.out))) : w.heap.size ≤ gb201)); have n5_ := Aside0.mk ((by rw [hg]; exact Nat.ne_of_lt (blk_lt (g := gb196) (o := .cells #[.int .i64 t192, .int .i64 t193, .int .i64 t194] 23 (0, 0)) (by (with_reducible repeat (first | refine blk_drewN ?_ _ | refine blk_drew ?_ | refine blk_alloc ?_ _)); exact BK196.out)) : gb196 ≠ gb201)); have n6_ := Aside0.mk ((by rw [hg]; exact Nat.ne_of_gt (blk_lt (g := gb196) (o := .cells #[.int .i64 t192, .int .i64 t193, .int .i64 t194] 23 (0, 0)) (by (with_reducible repeat (first | refine blk_drewN ?_ _ | refine blk_drew ?_ | refine blk_alloc ?_ _)); exact BK196.out)) : gb201 ≠ gb196)); clear BK196; clear HB; have BK196 := n0_; have HB := n1_; have BK201 := n2_; have GW201 := n3_; have GE201 := n4_; have NB196_201 := n5_; have NB201_196 := n6_; clear n0_ n1_ n2_ n3_ n4_ n5_ n6_; clear hb hbox hg; have hnb13 := NB201_196.out; have hnc13 := NB196_201.out; have hcz14_0 : w12.cell? ⟨gb201, 0, none⟩ = some (.int .i64 0) := (blk_cell BK201.out 0).trans rfl; have hcz14_1 : w12.cell? ⟨gb201, 1, none⟩ = some (.int .i64 0) := (blk_cell BK201.out 1).trans rfl; have hcz14_2 : w12.cell? ⟨gb201, 2, none⟩ = some (.int .i64 0) := (blk_cell BK201.out 2).trans rfl; have hfz14_0 := blk_frozen BK201.out 0; have hfz14_1 := blk_frozen BK201.out 1; have hfz14_2 := blk_frozen BK201.out 2))
    (try simp only [Act.put, List.setIfInBounds_toArray, List.set_cons_zero, List.set_cons_succ])
    go_cut [37] (fun v37 wc => ∃ (kq : Nat) (x37_5 : Bool), v37 = .bool x37_5 ∧ Aside0 (stipendlaw03_DateBack.j0 kq a0 t200 x37_5 t192 t193 t194 = some r) ∧ Aside0 (kq ≤ k) ∧ Aside0 (wc.heap[gb196]? = some (.cells #[.int .i64 t192, .int .i64 t193, .int .i64 t194] 23 (0, 0))) ∧ Aside0 (wc.heap[gb201]? = some (.cells #[.int .i64 t197, .int .i64 t198, .int .i64 t199] 23 (0, 0))) ∧ Aside0 (Below w.heap.size w wc))
    case first =>
      have H := HC6.out
      clear HC6
      by_cases c15 : (!(t192 == t197) || (!(t193 == t198) || (!(t194 == t199)))) = true
      · rw [if_pos c15] at H
        have c15b0 : (!(t192 == t197) || (!(t193 == t198) || (!(t194 == t199)))) = true := c15
        clear c15
        (first | rw [c15b0] | (simp only [i64_w, i32_w]; rw [c15b0]) | skip)
        have H' := Aside0.mk H
        clear H
        have hnb16 := NB196_201.out
        have hnc16 := NB201_196.out
        have hcz17_0 : w12.cell? ⟨gb196, 0, none⟩ = some (.int .i64 t192) := (blk_cell BK196.out 0).trans rfl
        have hcz17_1 : w12.cell? ⟨gb196, 1, none⟩ = some (.int .i64 t193) := (blk_cell BK196.out 1).trans rfl
        have hcz17_2 : w12.cell? ⟨gb196, 2, none⟩ = some (.int .i64 t194) := (blk_cell BK196.out 2).trans rfl
        have hfz17_0 := blk_frozen BK196.out 0
        have hfz17_1 := blk_frozen BK196.out 1
        have hfz17_2 := blk_frozen BK196.out 2
        have hcz18_0 : w12.cell? ⟨gb201, 0, none⟩ = some (.int .i64 0) := (blk_cell BK201.out 0).trans rfl
        have hcz18_1 : w12.cell? ⟨gb201, 1, none⟩ = some (.int .i64 0) := (blk_cell BK201.out 1).trans rfl
        have hcz18_2 : w12.cell? ⟨gb201, 2, none⟩ = some (.int .i64 0) := (blk_cell BK201.out 2).trans rfl
        have hfz18_0 := blk_frozen BK201.out 0
        have hfz18_1 := blk_frozen BK201.out 1
        have hfz18_2 := blk_frozen BK201.out 2
        go_wp2
        go_meet
        case rel => exact ⟨_, (true), (by first | rfl | (simp; done) | (simp [*]; done)), H', ⟨by first | omega | exact Nat.le_refl _⟩, ⟨by (with_reducible repeat (first | refine blk_drewN ?_ _ | refine blk_drew ?_ | refine blk_alloc ?_ _)); refine blk_far ?_ NB196_201.out _; (with_reducible repeat (first | refine blk_drewN ?_ _ | refine blk_drew ?_ | refine blk_alloc ?_ _)); refine blk_far ?_ NB196_201.out _; (with_reducible repeat (first | refine blk_drewN ?_ _ | refine blk_drew ?_ | refine blk_alloc ?_ _)); refine blk_far ?_ NB196_201.out _; (with_reducible repeat (first | refine blk_drewN ?_ _ | refine blk_drew ?_ | refine blk_alloc ?_ _)); exact BK196.out⟩, ⟨by (with_reducible repeat (first | refine blk_drewN ?_ _ | refine blk_drew ?_ | refine blk_alloc ?_ _)); refine blk_put (cs := #[.int .i64 t197, .int .i64 t198, .int .i64 0]) ?_ 2 _ rfl; (with_reducible repeat (first | refine blk_drewN ?_ _ | refine blk_drew ?_ | refine blk_alloc ?_ _)); refine blk_put (cs := #[.int .i64 t197, .int .i64 0, .int .i64 0]) ?_ 1 _ rfl; (with_reducible repeat (first | refine blk_drewN ?_ _ | refine blk_drew ?_ | refine blk_alloc ?_ _)); refine blk_put (cs := #[.int .i64 0, .int .i64 0, .int .i64 0]) ?_ 0 _ rfl; (with_reducible repeat (first | refine blk_drewN ?_ _ | refine blk_drew ?_ | refine blk_alloc ?_ _)); exact BK201.out⟩, ⟨by repeat (first | (with_reducible first | exact HB.out | apply below_alloc | apply pw_below_drewN | apply below_drew1 | refine below_set ?_ GE196.out | refine below_set ?_ GE201.out) | exact HB.out)⟩⟩
      · rw [if_neg c15] at H
        have c15b0 : (!(t192 == t197) || (!(t193 == t198) || (!(t194 == t199)))) = false := by simpa using c15
        clear c15
        (first | rw [c15b0] | (simp only [i64_w, i32_w]; rw [c15b0]) | skip)
        by_cases c19 : ((t195 == 0) != t200) = true
        · rw [if_pos c19] at H
          have c19b0 : ((t195 == 0) != t200) = true := c19
          (try (have c19b1 : decide ((t195 == 0) = t200) = false := by simpa using c19))
          (try (have c19b2 : ((t195 == 0) == t200) = false := by simpa using c19))
          (try (have c19b3 : ¬ ((t195 == 0) = t200) := by simpa using c19))
          clear c19
          have H' := Aside0.mk H
          clear H
          have hnb20 := NB196_201.out
          have hnc20 := NB201_196.out
          have hcz21_0 : w12.cell? ⟨gb196, 0, none⟩ = some (.int .i64 t192) := (blk_cell BK196.out 0).trans rfl
          have hcz21_1 : w12.cell? ⟨gb196, 1, none⟩ = some (.int .i64 t193) := (blk_cell BK196.out 1).trans rfl
          have hcz21_2 : w12.cell? ⟨gb196, 2, none⟩ = some (.int .i64 t194) := (blk_cell BK196.out 2).trans rfl
          have hfz21_0 := blk_frozen BK196.out 0
          have hfz21_1 := blk_frozen BK196.out 1
          have hfz21_2 := blk_frozen BK196.out 2
          have hcz22_0 : w12.cell? ⟨gb201, 0, none⟩ = some (.int .i64 0) := (blk_cell BK201.out 0).trans rfl
          have hcz22_1 : w12.cell? ⟨gb201, 1, none⟩ = some (.int .i64 0) := (blk_cell BK201.out 1).trans rfl
          have hcz22_2 : w12.cell? ⟨gb201, 2, none⟩ = some (.int .i64 0) := (blk_cell BK201.out 2).trans rfl
          have hfz22_0 := blk_frozen BK201.out 0
          have hfz22_1 := blk_frozen BK201.out 1
          have hfz22_2 := blk_frozen BK201.out 2
          go_wp2
          go_meet
          case rel => exact ⟨_, (true), (by first | rfl | (simp; done) | (simp [*]; done)), H', ⟨by first | omega | exact Nat.le_refl _⟩, ⟨by (with_reducible repeat (first | refine blk_drewN ?_ _ | refine blk_drew ?_ | refine blk_alloc ?_ _)); refine blk_far ?_ NB196_201.out _; (with_reducible repeat (first | refine blk_drewN ?_ _ | refine blk_drew ?_ | refine blk_alloc ?_ _)); refine blk_far ?_ NB196_201.out _; (with_reducible repeat (first | refine blk_drewN ?_ _ | refine blk_drew ?_ | refine blk_alloc ?_ _)); refine blk_far ?_ NB196_201.out _; (with_reducible repeat (first | refine blk_drewN ?_ _ | refine blk_drew ?_ | refine blk_alloc ?_ _)); exact BK196.out⟩, ⟨by (with_reducible repeat (first | refine blk_drewN ?_ _ | refine blk_drew ?_ | refine blk_alloc ?_ _)); refine blk_put (cs := #[.int .i64 t197, .int .i64 t198, .int .i64 0]) ?_ 2 _ rfl; (with_reducible repeat (first | refine blk_drewN ?_ _ | refine blk_drew ?_ | refine blk_alloc ?_ _)); refine blk_put (cs := #[.int .i64 t197, .int .i64 0, .int .i64 0]) ?_ 1 _ rfl; (with_reducible repeat (first | refine blk_drewN ?_ _ | refine blk_drew ?_ | refine blk_alloc ?_ _)); refine blk_put (cs := #[.int .i64 0, .int .i64 0, .int .i64 0]) ?_ 0 _ rfl; (with_reducible repeat (first | refine blk_drewN ?_ _ | refine blk_drew ?_ | refine blk_alloc ?_ _)); exact BK201.out⟩, ⟨by repeat (first | (with_reducible first | exact HB.out | apply below_alloc | apply pw_below_drewN | apply below_drew1 | refine below_set ?_ GE196.out | refine below_set ?_ GE201.out) | exact HB.out)⟩⟩
        · rw [if_neg c19] at H
          have c19b0 : ((t195 == 0) != t200) = false := by simpa using c19
          (try (have c19b1 : decide ((t195 == 0) = t200) = true := by simpa using c19))
          (try (have c19b2 : ((t195 == 0) == t200) = true := by simpa using c19))
          clear c19
          by_cases c23 : t195 = 0
          · rw [if_pos c23] at H
            have c23b0 : (t195 == 0) = true := beq_iff_eq.mpr c23
            (try (first | ((have hx_ : t200 = true := by have z := c19b0; rw [c23b0] at z; revert z; cases t200 <;> decide); subst hx_) | ((have hx_ : t200 = false := by have z := c19b0; rw [c23b0] at z; revert z; cases t200 <;> decide); subst hx_)))
            have c23b1 : (t195 != 0) = false := bne_eq_false_iff_eq.mpr c23
            clear c23
            have H' := Aside0.mk H
            clear H
            have hnb24 := NB196_201.out
            have hnc24 := NB201_196.out
            have hcz25_0 : w12.cell? ⟨gb196, 0, none⟩ = some (.int .i64 t192) := (blk_cell BK196.out 0).trans rfl
            have hcz25_1 : w12.cell? ⟨gb196, 1, none⟩ = some (.int .i64 t193) := (blk_cell BK196.out 1).trans rfl
            have hcz25_2 : w12.cell? ⟨gb196, 2, none⟩ = some (.int .i64 t194) := (blk_cell BK196.out 2).trans rfl
            have hfz25_0 := blk_frozen BK196.out 0
            have hfz25_1 := blk_frozen BK196.out 1
            have hfz25_2 := blk_frozen BK196.out 2
            have hcz26_0 : w12.cell? ⟨gb201, 0, none⟩ = some (.int .i64 0) := (blk_cell BK201.out 0).trans rfl
            have hcz26_1 : w12.cell? ⟨gb201, 1, none⟩ = some (.int .i64 0) := (blk_cell BK201.out 1).trans rfl
            have hcz26_2 : w12.cell? ⟨gb201, 2, none⟩ = some (.int .i64 0) := (blk_cell BK201.out 2).trans rfl
            have hfz26_0 := blk_frozen BK201.out 0
            have hfz26_1 := blk_frozen BK201.out 1
            have hfz26_2 := blk_frozen BK201.out 2
            go_wp2
            go_meet
            case rel => exact ⟨_, (false), (by first | rfl | (simp; done) | (simp [*]; done)), H', ⟨by first | omega | exact Nat.le_refl _⟩, ⟨by (with_reducible repeat (first | refine blk_drewN ?_ _ | refine blk_drew ?_ | refine blk_alloc ?_ _)); refine blk_far ?_ NB196_201.out _; (with_reducible repeat (first | refine blk_drewN ?_ _ | refine blk_drew ?_ | refine blk_alloc ?_ _)); refine blk_far ?_ NB196_201.out _; (with_reducible repeat (first | refine blk_drewN ?_ _ | refine blk_drew ?_ | refine blk_alloc ?_ _)); refine blk_far ?_ NB196_201.out _; (with_reducible repeat (first | refine blk_drewN ?_ _ | refine blk_drew ?_ | refine blk_alloc ?_ _)); exact BK196.out⟩, ⟨by (with_reducible repeat (first | refine blk_drewN ?_ _ | refine blk_drew ?_ | refine blk_alloc ?_ _)); refine blk_put (cs := #[.int .i64 t197, .int .i64 t198, .int .i64 0]) ?_ 2 _ rfl; (with_reducible repeat (first | refine blk_drewN ?_ _ | refine blk_drew ?_ | refine blk_alloc ?_ _)); refine blk_put (cs := #[.int .i64 t197, .int .i64 0, .int .i64 0]) ?_ 1 _ rfl; (with_reducible repeat (first | refine blk_drewN ?_ _ | refine blk_drew ?_ | refine blk_alloc ?_ _)); refine blk_put (cs := #[.int .i64 0, .int .i64 0, .int .i64 0]) ?_ 0 _ rfl; (with_reducible repeat (first | refine blk_drewN ?_ _ | refine blk_drew ?_ | refine blk_alloc ?_ _)); exact BK201.out⟩, ⟨by repeat (first | (with_reducible first | exact HB.out | apply below_alloc | apply pw_below_drewN | apply below_drew1 | refine below_set ?_ GE196.out | refine below_set ?_ GE201.out) | exact HB.out)⟩⟩
          · rw [if_neg c23] at H
            have c23b0 : (t195 == 0) = false := beq_eq_false_iff_ne.mpr c23
            (try (first | ((have hx_ : t200 = true := by have z := c19b0; rw [c23b0] at z; revert z; cases t200 <;> decide); subst hx_) | ((have hx_ : t200 = false := by have z := c19b0; rw [c23b0] at z; revert z; cases t200 <;> decide); subst hx_)))
            have c23b1 : (t195 != 0) = true := bne_iff_ne.mpr c23
            have H' := Aside0.mk H
            clear H
            have hnb27 := NB196_201.out
            have hnc27 := NB201_196.out
            have hcz28_0 : w12.cell? ⟨gb196, 0, none⟩ = some (.int .i64 t192) := (blk_cell BK196.out 0).trans rfl
            have hcz28_1 : w12.cell? ⟨gb196, 1, none⟩ = some (.int .i64 t193) := (blk_cell BK196.out 1).trans rfl
            have hcz28_2 : w12.cell? ⟨gb196, 2, none⟩ = some (.int .i64 t194) := (blk_cell BK196.out 2).trans rfl
            have hfz28_0 := blk_frozen BK196.out 0
            have hfz28_1 := blk_frozen BK196.out 1
            have hfz28_2 := blk_frozen BK196.out 2
            have hcz29_0 : w12.cell? ⟨gb201, 0, none⟩ = some (.int .i64 0) := (blk_cell BK201.out 0).trans rfl
            have hcz29_1 : w12.cell? ⟨gb201, 1, none⟩ = some (.int .i64 0) := (blk_cell BK201.out 1).trans rfl
            have hcz29_2 : w12.cell? ⟨gb201, 2, none⟩ = some (.int .i64 0) := (blk_cell BK201.out 2).trans rfl
            have hfz29_0 := blk_frozen BK201.out 0
            have hfz29_1 := blk_frozen BK201.out 1
            have hfz29_2 := blk_frozen BK201.out 2
            go_wp2
            go_meet
            case rel => exact ⟨_, ((t195 != 30)), (by first | rfl | (simp; done) | (simp [*]; done)), H', ⟨by first | omega | exact Nat.le_refl _⟩, ⟨by (with_reducible repeat (first | refine blk_drewN ?_ _ | refine blk_drew ?_ | refine blk_alloc ?_ _)); refine blk_far ?_ NB196_201.out _; (with_reducible repeat (first | refine blk_drewN ?_ _ | refine blk_drew ?_ | refine blk_alloc ?_ _)); refine blk_far ?_ NB196_201.out _; (with_reducible repeat (first | refine blk_drewN ?_ _ | refine blk_drew ?_ | refine blk_alloc ?_ _)); refine blk_far ?_ NB196_201.out _; (with_reducible repeat (first | refine blk_drewN ?_ _ | refine blk_drew ?_ | refine blk_alloc ?_ _)); exact BK196.out⟩, ⟨by (with_reducible repeat (first | refine blk_drewN ?_ _ | refine blk_drew ?_ | refine blk_alloc ?_ _)); refine blk_put (cs := #[.int .i64 t197, .int .i64 t198, .int .i64 0]) ?_ 2 _ rfl; (with_reducible repeat (first | refine blk_drewN ?_ _ | refine blk_drew ?_ | refine blk_alloc ?_ _)); refine blk_put (cs := #[.int .i64 t197, .int .i64 0, .int .i64 0]) ?_ 1 _ rfl; (with_reducible repeat (first | refine blk_drewN ?_ _ | refine blk_drew ?_ | refine blk_alloc ?_ _)); refine blk_put (cs := #[.int .i64 0, .int .i64 0, .int .i64 0]) ?_ 0 _ rfl; (with_reducible repeat (first | refine blk_drewN ?_ _ | refine blk_drew ?_ | refine blk_alloc ?_ _)); exact BK201.out⟩, ⟨by repeat (first | (with_reducible first | exact HB.out | apply below_alloc | apply pw_below_drewN | apply below_drew1 | refine below_set ?_ GE196.out | refine below_set ?_ GE201.out) | exact HB.out)⟩⟩
    case rest =>
      clear HC6
      try clear c1
      try clear c2
      try clear p2
      try clear c3
      try clear c4
      try clear c10
      try clear c13
      try clear c15
      try clear c15b0
      try clear c16
      try clear c18
      try clear c19
      try clear c19b0
      try clear c19b1
      try clear c19b2
      try clear c20
      try clear c23
      try clear c23b0
      try clear c23b1
      try clear c24
      try clear c27
      try clear hcz10_0
      try clear hcz10_1
      try clear hcz10_2
      try clear hcz14_0
      try clear hcz14_1
      try clear hcz14_2
      try clear hcz17_0
      try clear hcz17_1
      try clear hcz17_2
      try clear hcz18_0
      try clear hcz18_1
      try clear hcz18_2
      try clear hcz21_0
      try clear hcz21_1
      try clear hcz21_2
      try clear hcz22_0
      try clear hcz22_1
      try clear hcz22_2
      try clear hcz25_0
      try clear hcz25_1
      try clear hcz25_2
      try clear hcz26_0
      try clear hcz26_1
      try clear hcz26_2
      try clear hcz28_0
      try clear hcz28_1
      try clear hcz28_2
      try clear hcz29_0
      try clear hcz29_1
      try clear hcz29_2
      try clear hfz10_0
      try clear hfz10_1
      try clear hfz10_2
      try clear hfz14_0
      try clear hfz14_1
      try clear hfz14_2
      try clear hfz17_0
      try clear hfz17_1
      try clear hfz17_2
      try clear hfz18_0
      try clear hfz18_1
      try clear hfz18_2
      try clear hfz21_0
      try clear hfz21_1
      try clear hfz21_2
      try clear hfz22_0
      try clear hfz22_1
      try clear hfz22_2
      try clear hfz25_0
      try clear hfz25_1
      try clear hfz25_2
      try clear hfz26_0
      try clear hfz26_1
      try clear hfz26_2
      try clear hfz28_0
      try clear hfz28_1
      try clear hfz28_2
      try clear hfz29_0
      try clear hfz29_1
      try clear hfz29_2
      obtain ⟨kq, x37_5, rfl, HA, HJ5, BK196, BK201, HB⟩ := hcut
      cases kq with
      | zero => exact absurd HA.out (by simp [stipendlaw03_DateBack.j0])
      | succ kj5 =>
        have H := HA.out
        clear HA
        simp only [stipendlaw03_DateBack.j0] at H
        by_cases c30 : x37_5 = true
        · subst c30
          have H1 : (some false) = some r := by rw [if_pos rfl] at H; exact H
          clear H
          have H := H1
          clear H1
          obtain rfl := Option.some.inj H
          go_wp2
          go_ret
          exact ⟨by first | rfl | (simp [errW_none, errW_some] <;> rfl) | (simp [*, errW_none, errW_some] <;> rfl), by repeat (first | (with_reducible first | exact HB.out | apply below_alloc | apply pw_below_drewN | apply below_drew1 | refine below_set ?_ GE196.out | refine below_set ?_ GE201.out) | exact HB.out)⟩
        · replace c30 := Bool.eq_false_iff.mpr c30
          subst c30
          have H1 : (if t200 = true then ((date_Number.f kj5 t192 t193 t194).bind fun bt202 => (if bt202.2 = 0 then (some (bt202.1 == a0)) else (some false))) else (if a0 < 0 then (some true) else (some (decide (a0 ≥ 109573))))) = some r := by rw [if_neg (show ¬ (false = true) by decide)] at H; exact H
          clear H
          have H := H1
          clear H1
          by_cases c31 : t200 = true
          · subst c31
            have H1 : ((date_Number.f kj5 t192 t193 t194).bind fun bt202 => (if bt202.2 = 0 then (some (bt202.1 == a0)) else (some false))) = some r := by rw [if_pos rfl] at H; exact H
            clear H
            have H := H1
            clear H1
            replace H := Option.bind_eq_some_iff.mp H
            obtain ⟨⟨t202, t203⟩, A320, H⟩ := H
            replace H : (if t203 = 0 then (some (t202 == a0)) else (some false)) = some r := H
            have A32 := Aside0.mk A320
            clear A320
            by_cases c33 : t203 = 0
            · rw [if_pos c33] at H
              have c33b0 : (t203 == 0) = true := beq_iff_eq.mpr c33
              have c33b1 : (t203 != 0) = false := bne_eq_false_iff_eq.mpr c33
              clear c33
              obtain rfl := Option.some.inj H
              have hnb34 := NB196_201.out
              have hnc34 := NB201_196.out
              have hcz35_0 : wc.cell? ⟨gb196, 0, none⟩ = some (.int .i64 t192) := (blk_cell BK196.out 0).trans rfl
              have hcz35_1 : wc.cell? ⟨gb196, 1, none⟩ = some (.int .i64 t193) := (blk_cell BK196.out 1).trans rfl
              have hcz35_2 : wc.cell? ⟨gb196, 2, none⟩ = some (.int .i64 t194) := (blk_cell BK196.out 2).trans rfl
              have hfz35_0 := blk_frozen BK196.out 0
              have hfz35_1 := blk_frozen BK196.out 1
              have hfz35_2 := blk_frozen BK196.out 2
              go_wp2_with (first | ((with_reducible refine gate_callee (f := 11) rfl ?_); refine goesL_ (some 48) rfl rfl Try.func11 (by kernel_rfl) rfl #[.agg #[.int .i64 t192, .int .i64 t193, .int .i64 t194]] rfl (by (try simp only [List.map_toArray, List.map_cons, List.map_nil]); first | done | rfl | (simp only [List.length_drop, List.length_take]; rfl)) ?_; (with_reducible refine (date_Number.calls kj5 t192 t193 t194 t202 t203 _ A32.out).mono ?_); rintro e w36 ⟨rfl, hb⟩; refine ⟨_, rfl, ?_⟩; have n0_ := Aside0.mk (blk_below (g := gb196) (o := .cells #[.int .i64 t192, .int .i64 t193, .int .i64 t194] 23 (0, 0)) (by (with_reducible repeat (first | refine blk_drewN ?_ _ | refine blk_drew ?_ | refine blk_alloc ?_ _)); exact BK196.out) hb); have n1_ := Aside0.mk (blk_below (g := gb201) (o := .cells #[.int .i64 t197, .int .i64 t198, .int .i64 t199] 23 (0, 0)) (by (with_reducible repeat (first | refine blk_drewN ?_ _ | refine blk_drew ?_ | refine blk_alloc ?_ _)); exact BK201.out) hb); have n2_ := Aside0.mk (below_step (by repeat (first | (with_reducible first | exact HB.out | apply below_alloc | apply pw_below_drewN | apply below_drew1 | refine below_set ?_ GE196.out | refine below_set ?_ GE201.out) | exact HB.out)) hb); clear BK196; clear BK201; clear HB; have BK196 := n0_; have BK201 := n1_; have HB := n2_; clear n0_ n1_ n2_; (try clear hb); (try clear hb2); (try clear hk); (try clear hi)))
              go_ret
              exact ⟨by first | rfl | (simp [errW_none, errW_some] <;> rfl) | (simp [*, errW_none, errW_some] <;> rfl), by repeat (first | (with_reducible first | exact HB.out | apply below_alloc | apply pw_below_drewN | apply below_drew1 | refine below_set ?_ GE196.out | refine below_set ?_ GE201.out) | exact HB.out)⟩
            · rw [if_neg c33] at H
              have c33b0 : (t203 == 0) = false := beq_eq_false_iff_ne.mpr c33
              have c33b1 : (t203 != 0) = true := bne_iff_ne.mpr c33
              obtain rfl := Option.some.inj H
              have hnb37 := NB196_201.out
              have hnc37 := NB201_196.out
              have hcz38_0 : wc.cell? ⟨gb196, 0, none⟩ = some (.int .i64 t192) := (blk_cell BK196.out 0).trans rfl
              have hcz38_1 : wc.cell? ⟨gb196, 1, none⟩ = some (.int .i64 t193) := (blk_cell BK196.out 1).trans rfl
              have hcz38_2 : wc.cell? ⟨gb196, 2, none⟩ = some (.int .i64 t194) := (blk_cell BK196.out 2).trans rfl
              have hfz38_0 := blk_frozen BK196.out 0
              have hfz38_1 := blk_frozen BK196.out 1
              have hfz38_2 := blk_frozen BK196.out 2
              go_wp2_with (first | ((with_reducible refine gate_callee (f := 11) rfl ?_); refine goesL_ (some 48) rfl rfl Try.func11 (by kernel_rfl) rfl #[.agg #[.int .i64 t192, .int .i64 t193, .int .i64 t194]] rfl (by (try simp only [List.map_toArray, List.map_cons, List.map_nil]); first | done | rfl | (simp only [List.length_drop, List.length_take]; rfl)) ?_; (with_reducible refine (date_Number.calls kj5 t192 t193 t194 t202 t203 _ A32.out).mono ?_); rintro e w39 ⟨rfl, hb⟩; refine ⟨_, rfl, ?_⟩; have n0_ := Aside0.mk (blk_below (g := gb196) (o := .cells #[.int .i64 t192, .int .i64 t193, .int .i64 t194] 23 (0, 0)) (by (with_reducible repeat (first | refine blk_drewN ?_ _ | refine blk_drew ?_ | refine blk_alloc ?_ _)); exact BK196.out) hb); have n1_ := Aside0.mk (blk_below (g := gb201) (o := .cells #[.int .i64 t197, .int .i64 t198, .int .i64 t199] 23 (0, 0)) (by (with_reducible repeat (first | refine blk_drewN ?_ _ | refine blk_drew ?_ | refine blk_alloc ?_ _)); exact BK201.out) hb); have n2_ := Aside0.mk (below_step (by repeat (first | (with_reducible first | exact HB.out | apply below_alloc | apply pw_below_drewN | apply below_drew1 | refine below_set ?_ GE196.out | refine below_set ?_ GE201.out) | exact HB.out)) hb); clear BK196; clear BK201; clear HB; have BK196 := n0_; have BK201 := n1_; have HB := n2_; clear n0_ n1_ n2_; (try clear hb); (try clear hb2); (try clear hk); (try clear hi)))
              go_ret
              exact ⟨by first | rfl | (simp [errW_none, errW_some] <;> rfl) | (simp [*, errW_none, errW_some] <;> rfl), by repeat (first | (with_reducible first | exact HB.out | apply below_alloc | apply pw_below_drewN | apply below_drew1 | refine below_set ?_ GE196.out | refine below_set ?_ GE201.out) | exact HB.out)⟩
          · replace c31 := Bool.eq_false_iff.mpr c31
            subst c31
            have H1 : (if a0 < 0 then (some true) else (some (decide (a0 ≥ 109573)))) = some r := by rw [if_neg (show ¬ (false = true) by decide)] at H; exact H
            clear H
            have H := H1
            clear H1
            by_cases c40 : a0 < 0
            · rw [if_pos c40] at H
              have c40b0 : decide (a0 < 0) = true := decide_eq_true c40
              clear c40
              obtain rfl := Option.some.inj H
              go_wp2
              go_ret
              exact ⟨by first | rfl | (simp [errW_none, errW_some] <;> rfl) | (simp [*, errW_none, errW_some] <;> rfl), by repeat (first | (with_reducible first | exact HB.out | apply below_alloc | apply pw_below_drewN | apply below_drew1 | refine below_set ?_ GE196.out | refine below_set ?_ GE201.out) | exact HB.out)⟩
            · rw [if_neg c40] at H
              have c40b0 : decide (a0 < 0) = false := decide_eq_false c40
              clear c40
              obtain rfl := Option.some.inj H
              go_wp2
              go_ret
              exact ⟨by first | rfl | (simp [errW_none, errW_some] <;> rfl) | (simp [*, errW_none, errW_some] <;> rfl), by repeat (first | (with_reducible first | exact HB.out | apply below_alloc | apply pw_below_drewN | apply below_drew1 | refine below_set ?_ GE196.out | refine below_set ?_ GE201.out) | exact HB.out)⟩
  · replace c3 := Bool.eq_false_iff.mpr c3
    subst c3
    have H1 : (some false) = some r := by rw [if_neg (show ¬ (false = true) by decide)] at H; exact H
    clear H
    have H := H1
    clear H1
    obtain rfl := Option.some.inj H
    go_enter Try.func4, Try.ntmps4
    go_wp2_with (first | ((with_reducible refine gate_callee (f := 10) rfl ?_); refine goesL_ (some 9) rfl rfl Try.func10 (by kernel_rfl) rfl #[] rfl (by (try simp only [List.map_toArray, List.map_cons, List.map_nil]); first | done | rfl | (simp only [List.length_drop, List.length_take]; rfl)) ?_; (with_reducible refine (stipendlaw03_days.calls k  false _ A2.out).mono ?_); rintro e w41 ⟨rfl, hb⟩; refine ⟨_, rfl, ?_⟩; have n0_ := Aside0.mk (below_step (by repeat (first | (with_reducible first | exact HB.out | apply below_alloc | apply pw_below_drewN | apply below_drew1) | exact HB.out)) hb); clear HB; have HB := n0_; clear n0_; (try clear hb); (try clear hb2); (try clear hk); (try clear hi)))
    go_ret
    exact ⟨by first | rfl | (simp [errW_none, errW_some] <;> rfl) | (simp [*, errW_none, errW_some] <;> rfl), by repeat (first | (with_reducible first | exact HB.out | apply below_alloc | apply pw_below_drewN | apply below_drew1) | exact HB.out)⟩

/-- THE ONE PURE STATEMENT of stipendlaw03_DateBack: yours. -/
def stipendlaw03_DateBack.Pure : Prop := ∀ (a0 : Int), (Lit.int .i64 a0).wf = true → ∃ k, stipendlaw03_DateBack.f k a0 = some true
theorem stipendlaw03_DateBack.walk (P : stipendlaw03_DateBack.Pure) (a0 : Int) (w : World) (w0 : (Lit.int .i64 a0).wf = true) :
    Calls Try.prog 4 #[.int .i64 a0] w fun e w' => e = .returned (.bool true) ∧ Below w.heap.size w w' := by
  obtain ⟨k, h⟩ := P a0 w0
  refine (stipendlaw03_DateBack.calls k a0 true w h).mono ?_
  rintro e w' ⟨rfl, hd⟩
  exact ⟨rfl, hd⟩

end Go.Proofs.Ythfkfageehkhcaa.X
