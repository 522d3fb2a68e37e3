-- laid by the session's own program (xprint.py) out of Lean's print of the program; Lean checks it
import Derived.Test.YtfiomckebicphaaX0
import Derived.Test.YtfiomckebicphaaXfracTake
namespace Go.Proofs.Ytfiomckebicphaa.X
open Go.RowKit Go.Proofs.YtfiomckebicphaaW.PrintWords Go.Proofs.YtfiomckebicphaaW.PrintLast Go.Proofs.YtfiomckebicphaaW.PrintMore
attribute [local go_sem] max2_int min2_int max_two min_two max_three min_three max_four min_four   -- for this text's walks alone
set_option linter.unusedVariables false
set_option linter.unusedSimpArgs false

/-! ### hold_Limit: function 29 -/
def hold_Limit.f (k : Nat) (l0_0 : List (List (S30))) (l0_1 : List (S130)) (l0_2 : List (S132)) (a0_3 : Int) (a0_4 : Int) (a1 : Int) : Option (Int × Int) := (frac_Take.f k (mx 0 a1) a0_3 1).bind fun bt232 => (some (bt232.1, bt232.2))
theorem hold_Limit.mono : ∀ a0 a1 a2 a3 a4 a5 k, LeO (hold_Limit.f k a0 a1 a2 a3 a4 a5) (hold_Limit.f (k + 1) a0 a1 a2 a3 a4 a5) := by
  intro a0 a1 a2 a3 a4 a5 k
  unfold hold_Limit.f
  repeat' first
      | (with_reducible exact frac_Take.mono _ _ _ _)
      | (with_reducible exact LeO.refl _)
      | (with_reducible exact LeO.none _)
      | (with_reducible refine LeO.ite ?_ ?_)
      | (with_reducible refine LeO.bind ?_ (fun _ => ?_))
      | exact frac_Take.mono _ _ _ _
      | exact LeO.none _
      | refine LeO.ite ?_ ?_
      | refine LeO.bind ?_ (fun _ => ?_)
set_option maxHeartbeats 8000000 in
set_option maxRecDepth 100000 in
theorem hold_Limit.calls (k : Nat) (A0_0 : Option Addr) (c0_0 : Nat) (l0_0 : List (List (S30))) (A0_1 : Option Addr) (c0_1 : Nat) (l0_1 : List (S130)) (A0_2 : Option Addr) (c0_2 : Nat) (l0_2 : List (S132)) (a0_3 : Int) (a0_4 : Int) (a1 : Int) (r1 : Int) (r2 : Int) (w : World) (hr0_0 : Kd.C (Kd.slice 30 k30) w A0_0 l0_0.length l0_0) (hc0_0 : l0_0.length ≤ c0_0) (hr0_1 : Kd.C k130 w A0_1 l0_1.length l0_1) (hc0_1 : l0_1.length ≤ c0_1) (hr0_2 : Kd.C k132 w A0_2 l0_2.length l0_2) (hc0_2 : l0_2.length ≤ c0_2) (h : hold_Limit.f k l0_0 l0_1 l0_2 a0_3 a0_4 a1 = some (r1, r2)) :
    Calls Try.prog 29 #[.agg #[.slice A0_0 l0_0.length c0_0, .slice A0_1 l0_1.length c0_1, .slice A0_2 l0_2.length c0_2, .int .i64 a0_3, .int .i64 a0_4], .int .i64 a1] w fun e w' => e = .returned (.tuple #[.int .i64 r1, .int .i64 r2]) ∧ Below w.heap.size w w' := by
  have hu55 := Try.underlying55
  have HR0_0 := Aside0.mk hr0_0
  have HC0_0 := Aside0.mk hc0_0
  clear hr0_0 hc0_0
  have HR0_1 := Aside0.mk hr0_1
  have HC0_1 := Aside0.mk hc0_1
  clear hr0_1 hc0_1
  have HR0_2 := Aside0.mk hr0_2
  have HC0_2 := Aside0.mk hc0_2
  clear hr0_2 hc0_2
  have HB := Aside0.mk (Below.refl w.heap.size w)
  have H : ((frac_Take.f k (mx 0 a1) a0_3 1).bind fun bt232 => (some (bt232.1, bt232.2))) = some (r1, r2) := h
  clear h
  obtain ⟨ji3, hji3⟩ : ∃ j_ : Int, (mx 0 a1) = j_ := ⟨_, rfl⟩
  replace H : ((frac_Take.f k (ji3) a0_3 1).bind fun bt232 => (some (bt232.1, bt232.2))) = some (r1, r2) := by first | (rw [hji3] at H; exact H) | (simp only [hji3] at H ⊢; exact H)
  (try (have hji3l : 0 ≤ ji3 := by (rw [← hji3]; unfold mx; (repeat' split) <;> omega)))
  (try (have hji3m : 0 ≤ ji3 := by omega))
  have hji3_ : (if 0 < a1 then a1 else 0) = ji3 := hji3
  replace H := Option.bind_eq_some_iff.mp H
  obtain ⟨⟨t232, t233⟩, A40, H⟩ := H
  replace H : (some (t232, t233)) = some (r1, r2) := H
  have A4 := Aside0.mk A40
  clear A40
  simp only [Option.some.injEq, Prod.mk.injEq] at H
  obtain ⟨rfl, rfl⟩ := H
  go_enter Try.func29, Try.ntmps29
  go_wp2_with (first | ((with_reducible refine gate_dst (N := 2) rfl ?_); refine box_event ?hg (N := 2) ?hd (cs := #[.slice A0_0 l0_0.length c0_0, .slice A0_1 l0_1.length c0_1, .slice A0_2 l0_2.length c0_2, .int .i64 a0_3, .int .i64 a0_4]) (t := 55) ?hr ?_; (case hd => rfl); (case hg => rfl); (case hr => first | (go_simp; done) | (go_simp; rfl)); intro gb231 hg w5 hbox hb; have n0_ := Aside0.mk (below_step (by repeat (first | (with_reducible first | exact HB.out | apply below_alloc | apply pw_below_drewN | apply below_drew1) | exact HB.out)) hb); have n1_ := Aside0.mk (hbox); have n2_ := Aside0.mk ((by rw [hg]; exact (below_size (by repeat (first | (with_reducible first | exact HB.out | apply below_alloc | apply pw_below_drewN | apply below_drew1) | exact HB.out))) : w.heap.size ≤ gb231)); have n3_ := Aside0.mk ((by rw [hg]; exact (below_size (by repeat (first | (with_reducible first | exact HB.out | apply below_alloc | apply pw_below_drewN | apply below_drew1) | exact HB.out))) : w.heap.size ≤ gb231)); clear HB; have HB := n0_; have BK231 := n1_; have GW231 := n2_; have GE231 := n3_; clear n0_ n1_ n2_ n3_; clear hb hbox hg; have hcz6_0 : w5.cell? ⟨gb231, 0, none⟩ = some (.slice A0_0 l0_0.length c0_0) := (blk_cell BK231.out 0).trans rfl; have hcz6_1 : w5.cell? ⟨gb231, 1, none⟩ = some (.slice A0_1 l0_1.length c0_1) := (blk_cell BK231.out 1).trans rfl; have hcz6_2 : w5.cell? ⟨gb231, 2, none⟩ = some (.slice A0_2 l0_2.length c0_2) := (blk_cell BK231.out 2).trans rfl; have hcz6_3 : w5.cell? ⟨gb231, 3, none⟩ = some (.int .i64 a0_3) := (blk_cell BK231.out 3).trans rfl; have hcz6_4 : w5.cell? ⟨gb231, 4, none⟩ = some (.int .i64 a0_4) := (blk_cell BK231.out 4).trans rfl; have hfz6_0 := blk_frozen BK231.out 0; have hfz6_1 := blk_frozen BK231.out 1; have hfz6_2 := blk_frozen BK231.out 2; have hfz6_3 := blk_frozen BK231.out 3; have hfz6_4 := blk_frozen BK231.out 4) | ((with_reducible refine gate_callee (f := 39) rfl ?_); refine goesL_ (some 10) rfl rfl Try.func39 (by kernel_rfl) rfl #[.int .i64 ji3, .int .i64 a0_3, .int .i64 1] rfl (by (try simp only [List.map_toArray, List.map_cons, List.map_nil]); first | done | (simp only [hji3]; rfl) | rfl | (simp only [List.length_drop, List.length_take]; rfl)) ?_; (with_reducible refine (frac_Take.calls k ji3 a0_3 1 t232 t233 _ A4.out).mono ?_); rintro e w7 ⟨rfl, hb⟩; refine ⟨_, rfl, ?_⟩; have n0_ := Aside0.mk (blk_below (g := gb231) (o := .cells #[.slice A0_0 l0_0.length c0_0, .slice A0_1 l0_1.length c0_1, .slice A0_2 l0_2.length c0_2, .int .i64 a0_3, .int .i64 a0_4] 55 (0, 0)) (by (with_reducible repeat (first | refine blk_drewN ?_ _ | refine blk_drew ?_ | refine blk_alloc ?_ _)); exact BK231.out) hb); have n1_ := Aside0.mk (below_step (by repeat (first | (with_reducible first | exact HB.out | apply below_alloc | apply pw_below_drewN | apply below_drew1 | refine below_set ?_ GE231.out) | exact HB.out)) hb); clear BK231; clear HB; have BK231 := n0_; have HB := n1_; clear n0_ n1_; (try clear hb); (try clear hb2); (try clear hk); (try clear hi)))
  go_ret2
  exact ⟨by first | rfl | (simp [errW_none, errW_some] <;> rfl) | (simp only [← hji3]; first | rfl | (simp [errW_none, errW_some] <;> rfl)) | (simp [*, errW_none, errW_some] <;> rfl), by repeat (first | (with_reducible first | exact HB.out | apply below_alloc | apply pw_below_drewN | apply below_drew1 | refine below_set ?_ GE231.out) | exact HB.out)⟩

end Go.Proofs.Ytfiomckebicphaa.X
