-- laid by the session's own program (xprint.py) out of Lean's print of the program; Lean checks it
import Derived.Test.YtfiomckebicphaaX0
import Derived.Test.YtfiomckebicphaaXmoneyRight
import Derived.Test.YtfiomckebicphaaXholdStateDue
import Derived.Test.YtfiomckebicphaaXholdStep
namespace Go.Proofs.Ytfiomckebicphaa.X
open Go.RowKit Go.Proofs.YtfiomckebicphaaW.PrintWords Go.Proofs.YtfiomckebicphaaW.PrintLast Go.Proofs.YtfiomckebicphaaW.PrintMore
attribute [local go_sem] max2_int min2_int max_two min_two max_three min_three max_four min_four   -- for this text's walks alone
set_option linter.unusedVariables false
set_option linter.unusedSimpArgs false

/-! ### hold_Recoup: function 37 -/
mutual
def hold_Recoup.j0 : Nat → Int → Int → Bool → List (List (S30)) → List (S130) → List (S132) → Int → Int → Int → Int → Option (List Int × Int × Int)
  | 0, _, _, _, _, _, _, _, _, _, _ => none
  | k + 1, x2, x3, x20, x385000, x385001, x385002, x385003, x385004, x386000, x386001 => if x20 = true then (some (([] : List Int), 0, 2)) else ((money_Right.f k (([x386000, x386001] : List Int))).bind fun t390 => (if t390 = true then ((hold_State_Due.f x386000 x386001).bind fun t391 => ((money_Right.f k (([t391] : List Int))).bind fun t395 => (hold_Recoup.j1 k x2 x3 (!t395) x385000 x385001 x385002 x385003 x385004 x386000 x386001))) else (hold_Recoup.j1 k x2 x3 true x385000 x385001 x385002 x385003 x385004 x386000 x386001)))
def hold_Recoup.j1 : Nat → Int → Int → Bool → List (List (S30)) → List (S130) → List (S132) → Int → Int → Int → Int → Option (List Int × Int × Int)
  | 0, _, _, _, _, _, _, _, _, _, _ => none
  | k + 1, x2, x3, x35, x385000, x385001, x385002, x385003, x385004, x386000, x386001 => if x35 = true then (some (([] : List Int), 0, 10)) else ((hold_State_Due.f x386000 x386001).bind fun t396 => (hold_Recoup.l0 k x2 x3 t396 x385000 x385001 x385002 x385003 x385004 x386000 x386001 ([] : List Int) 0))
def hold_Recoup.l0 : Nat → Int → Int → Int → List (List (S30)) → List (S130) → List (S132) → Int → Int → Int → Int → List Int → Int → Option (List Int × Int × Int)
  | 0, _, _, _, _, _, _, _, _, _, _, _, _ => none
  | k + 1, x2, x3, x10, x385000, x385001, x385002, x385003, x385004, x386000, x386001, x398000, x398001 => if (x398000.length : Int) < x3 then (hold_Recoup.j3 k x2 x3 x10 (decide (x386001 > 0)) x385000 x385001 x385002 x385003 x385004 x386000 x386001 x398000 x398001) else (hold_Recoup.j3 k x2 x3 x10 false x385000 x385001 x385002 x385003 x385004 x386000 x386001 x398000 x398001)
def hold_Recoup.j3 : Nat → Int → Int → Int → Bool → List (List (S30)) → List (S130) → List (S132) → Int → Int → Int → Int → List Int → Int → Option (List Int × Int × Int)
  | 0, _, _, _, _, _, _, _, _, _, _, _, _, _ => none
  | k + 1, x2, x3, x10, x48, x385000, x385001, x385002, x385003, x385004, x386000, x386001, x398000, x398001 => if x48 = true then ((hold_Step.f k x385000 x385001 x385002 x385003 x385004 x386000 x386001 x2 x10 true).bind fun bt398 => (if bt398.2.2.2 = 0 then (if x398000.length < 17592186044416 then ((some (x398000 ++ [bt398.1] : List Int)).bind fun y403 => (if bt398.1 = 0 then (some (y403, bt398.2.2.1, 0)) else (hold_Recoup.l0 k x2 x3 x10 x385000 x385001 x385002 x385003 x385004 bt398.2.1 bt398.2.2.1 y403 x398001))) else (none)) else (some (([] : List Int), 0, bt398.2.2.2)))) else (some (x398000, x386001, 0))
end
def hold_Recoup.f (k : Nat) (l0_0 : List (List (S30))) (l0_1 : List (S130)) (l0_2 : List (S132)) (a0_3 : Int) (a0_4 : Int) (a1_0 : Int) (a1_1 : Int) (a2 : Int) (a3 : Int) : Option (List Int × Int × Int) := if a3 < 0 then (hold_Recoup.j0 k a2 a3 true l0_0 l0_1 l0_2 a0_3 a0_4 a1_0 a1_1) else (hold_Recoup.j0 k a2 a3 (decide (a3 > 600)) l0_0 l0_1 l0_2 a0_3 a0_4 a1_0 a1_1)
theorem hold_Recoup.mono_l : ∀ k, (∀ y0 y1 y2 y3 y4 y5 y6 y7 y8 y9, LeO (hold_Recoup.j0 k y0 y1 y2 y3 y4 y5 y6 y7 y8 y9) (hold_Recoup.j0 (k + 1) y0 y1 y2 y3 y4 y5 y6 y7 y8 y9)) ∧ (∀ y0 y1 y2 y3 y4 y5 y6 y7 y8 y9, LeO (hold_Recoup.j1 k y0 y1 y2 y3 y4 y5 y6 y7 y8 y9) (hold_Recoup.j1 (k + 1) y0 y1 y2 y3 y4 y5 y6 y7 y8 y9)) ∧ (∀ y0 y1 y2 y3 y4 y5 y6 y7 y8 y9 y10 y11, LeO (hold_Recoup.l0 k y0 y1 y2 y3 y4 y5 y6 y7 y8 y9 y10 y11) (hold_Recoup.l0 (k + 1) y0 y1 y2 y3 y4 y5 y6 y7 y8 y9 y10 y11)) ∧ (∀ y0 y1 y2 y3 y4 y5 y6 y7 y8 y9 y10 y11 y12, LeO (hold_Recoup.j3 k y0 y1 y2 y3 y4 y5 y6 y7 y8 y9 y10 y11 y12) (hold_Recoup.j3 (k + 1) y0 y1 y2 y3 y4 y5 y6 y7 y8 y9 y10 y11 y12))
  | 0 => ⟨fun _ _ _ _ _ _ _ _ _ _ r h => by simp [hold_Recoup.j0] at h, fun _ _ _ _ _ _ _ _ _ _ r h => by simp [hold_Recoup.j1] at h, fun _ _ _ _ _ _ _ _ _ _ _ _ r h => by simp [hold_Recoup.l0] at h, fun _ _ _ _ _ _ _ _ _ _ _ _ _ r h => by simp [hold_Recoup.j3] at h⟩
  | k + 1 => by
    obtain ⟨ih0, ih1, ih2, ih3⟩ := hold_Recoup.mono_l k
    refine ⟨?_, ?_, ?_, ?_⟩
    · intro y0 y1 y2 y3 y4 y5 y6 y7 y8 y9
      unfold hold_Recoup.j0
      repeat' first
      | (with_reducible exact ih0 _ _ _ _ _ _ _ _ _ _)
      | (with_reducible exact ih1 _ _ _ _ _ _ _ _ _ _)
      | (with_reducible exact ih2 _ _ _ _ _ _ _ _ _ _ _ _)
      | (with_reducible exact ih3 _ _ _ _ _ _ _ _ _ _ _ _ _)
      | (with_reducible exact hold_Step.mono _ _ _ _ _ _ _ _ _ _ _)
      | (with_reducible exact money_Right.mono _ _)
      | (with_reducible exact LeO.refl _)
      | (with_reducible exact LeO.none _)
      | (with_reducible refine LeO.ite ?_ ?_)
      | (with_reducible refine LeO.bind ?_ (fun _ => ?_))
      | exact ih0 _ _ _ _ _ _ _ _ _ _
      | exact ih1 _ _ _ _ _ _ _ _ _ _
      | exact ih2 _ _ _ _ _ _ _ _ _ _ _ _
      | exact ih3 _ _ _ _ _ _ _ _ _ _ _ _ _
      | exact hold_Step.mono _ _ _ _ _ _ _ _ _ _ _
      | exact money_Right.mono _ _
      | exact LeO.none _
      | refine LeO.ite ?_ ?_
      | refine LeO.bind ?_ (fun _ => ?_)
    · intro y0 y1 y2 y3 y4 y5 y6 y7 y8 y9
      unfold hold_Recoup.j1
      repeat' first
      | (with_reducible exact ih0 _ _ _ _ _ _ _ _ _ _)
      | (with_reducible exact ih1 _ _ _ _ _ _ _ _ _ _)
      | (with_reducible exact ih2 _ _ _ _ _ _ _ _ _ _ _ _)
      | (with_reducible exact ih3 _ _ _ _ _ _ _ _ _ _ _ _ _)
      | (with_reducible exact hold_Step.mono _ _ _ _ _ _ _ _ _ _ _)
      | (with_reducible exact money_Right.mono _ _)
      | (with_reducible exact LeO.refl _)
      | (with_reducible exact LeO.none _)
      | (with_reducible refine LeO.ite ?_ ?_)
      | (with_reducible refine LeO.bind ?_ (fun _ => ?_))
      | exact ih0 _ _ _ _ _ _ _ _ _ _
      | exact ih1 _ _ _ _ _ _ _ _ _ _
      | exact ih2 _ _ _ _ _ _ _ _ _ _ _ _
      | exact ih3 _ _ _ _ _ _ _ _ _ _ _ _ _
      | exact hold_Step.mono _ _ _ _ _ _ _ _ _ _ _
      | exact money_Right.mono _ _
      | exact LeO.none _
      | refine LeO.ite ?_ ?_
      | refine LeO.bind ?_ (fun _ => ?_)
    · intro y0 y1 y2 y3 y4 y5 y6 y7 y8 y9 y10 y11
      unfold hold_Recoup.l0
      repeat' first
      | (with_reducible exact ih0 _ _ _ _ _ _ _ _ _ _)
      | (with_reducible exact ih1 _ _ _ _ _ _ _ _ _ _)
      | (with_reducible exact ih2 _ _ _ _ _ _ _ _ _ _ _ _)
      | (with_reducible exact ih3 _ _ _ _ _ _ _ _ _ _ _ _ _)
      | (with_reducible exact hold_Step.mono _ _ _ _ _ _ _ _ _ _ _)
      | (with_reducible exact money_Right.mono _ _)
      | (with_reducible exact LeO.refl _)
      | (with_reducible exact LeO.none _)
      | (with_reducible refine LeO.ite ?_ ?_)
      | (with_reducible refine LeO.bind ?_ (fun _ => ?_))
      | exact ih0 _ _ _ _ _ _ _ _ _ _
      | exact ih1 _ _ _ _ _ _ _ _ _ _
      | exact ih2 _ _ _ _ _ _ _ _ _ _ _ _
      | exact ih3 _ _ _ _ _ _ _ _ _ _ _ _ _
      | exact hold_Step.mono _ _ _ _ _ _ _ _ _ _ _
      | exact money_Right.mono _ _
      | exact LeO.none _
      | refine LeO.ite ?_ ?_
      | refine LeO.bind ?_ (fun _ => ?_)
    · intro y0 y1 y2 y3 y4 y5 y6 y7 y8 y9 y10 y11 y12
      unfold hold_Recoup.j3
      repeat' first
      | (with_reducible exact ih0 _ _ _ _ _ _ _ _ _ _)
      | (with_reducible exact ih1 _ _ _ _ _ _ _ _ _ _)
      | (with_reducible exact ih2 _ _ _ _ _ _ _ _ _ _ _ _)
      | (with_reducible exact ih3 _ _ _ _ _ _ _ _ _ _ _ _ _)
      | (with_reducible exact hold_Step.mono _ _ _ _ _ _ _ _ _ _ _)
      | (with_reducible exact money_Right.mono _ _)
      | (with_reducible exact LeO.refl _)
      | (with_reducible exact LeO.none _)
      | (with_reducible refine LeO.ite ?_ ?_)
      | (with_reducible refine LeO.bind ?_ (fun _ => ?_))
      | exact ih0 _ _ _ _ _ _ _ _ _ _
      | exact ih1 _ _ _ _ _ _ _ _ _ _
      | exact ih2 _ _ _ _ _ _ _ _ _ _ _ _
      | exact ih3 _ _ _ _ _ _ _ _ _ _ _ _ _
      | exact hold_Step.mono _ _ _ _ _ _ _ _ _ _ _
      | exact money_Right.mono _ _
      | exact LeO.none _
      | refine LeO.ite ?_ ?_
      | refine LeO.bind ?_ (fun _ => ?_)
theorem hold_Recoup.mono : ∀ a0 a1 a2 a3 a4 a5 a6 a7 a8 k, LeO (hold_Recoup.f k a0 a1 a2 a3 a4 a5 a6 a7 a8) (hold_Recoup.f (k + 1) a0 a1 a2 a3 a4 a5 a6 a7 a8) := by
  intro a0 a1 a2 a3 a4 a5 a6 a7 a8 k
  obtain ⟨ih0, ih1, ih2, ih3⟩ := hold_Recoup.mono_l k
  unfold hold_Recoup.f
  repeat' first
      | (with_reducible exact ih0 _ _ _ _ _ _ _ _ _ _)
      | (with_reducible exact ih1 _ _ _ _ _ _ _ _ _ _)
      | (with_reducible exact ih2 _ _ _ _ _ _ _ _ _ _ _ _)
      | (with_reducible exact ih3 _ _ _ _ _ _ _ _ _ _ _ _ _)
      | (with_reducible exact hold_Step.mono _ _ _ _ _ _ _ _ _ _ _)
      | (with_reducible exact money_Right.mono _ _)
      | (with_reducible exact LeO.refl _)
      | (with_reducible exact LeO.none _)
      | (with_reducible refine LeO.ite ?_ ?_)
      | (with_reducible refine LeO.bind ?_ (fun _ => ?_))
      | exact ih0 _ _ _ _ _ _ _ _ _ _
      | exact ih1 _ _ _ _ _ _ _ _ _ _
      | exact ih2 _ _ _ _ _ _ _ _ _ _ _ _
      | exact ih3 _ _ _ _ _ _ _ _ _ _ _ _ _
      | exact hold_Step.mono _ _ _ _ _ _ _ _ _ _ _
      | exact money_Right.mono _ _
      | exact LeO.none _
      | refine LeO.ite ?_ ?_
      | refine LeO.bind ?_ (fun _ => ?_)
theorem guard_on_ {P : Program} {ops : Array Oper} {Q : Exit → Act → World → Prop} {a : Act} {w : World} {rest : List Oper} {oi : Oper} (hw : Region.wanted oi (yielded ops a.tmps) = true) (h : wpList P ops Q ({ oi with guard := none } :: rest) a w) : wpList P ops Q (oi :: rest) a w := by
  cases oi
  simp only [wpList, hw, if_true]
  simp only [wpList, Region.wanted, if_true] at h
  exact h
def hold_Recoup.T11 : Bool × List (List Nat × List Nat) := (true, [([], []), ([0], [0]), ([], []), ([2], [2]), ([1, 3], [1, 3]), ([], []), ([0, 1, 2, 3, 4], []), ([6, 4, 4, 0, 1, 2, 3, 4], [4, 6]), ([5, 7, 0, 1, 2, 3, 4, 5, 6, 7], [5])])
def hold_Recoup.B11 : List Nat := [0, 1, 0, 4, 15, 0, 31, 95, 255]
theorem share_ {G Q : Prop} (h : G → Q) (g : G) : Q := h g
theorem cellAt_ {P : Program} {md : Region.Mode} {ops : Array Oper} {Q : Exit → Act → World → Prop} {S : World → Prop} {ds : List Nat} {fuel : Nat} {l : Array Bool} {a : Act} {w : World} {p : Addr} {u : Value} (hc : w.cell? p = some u) (h : w.cell? p = some u → wpAnyLast P md ops Q S ds fuel l a w) : wpAnyLast P md ops Q S ds fuel l a w := h hc
theorem hold_Recoup.tab11 : rtab .any (opsOf Try.f37 11) = hold_Recoup.T11 := by kernel_rfl
theorem hold_Recoup.bits11 : waitsOk hold_Recoup.T11.2 hold_Recoup.B11 = true := by kernel_rfl
set_option maxHeartbeats 8000000 in
set_option maxRecDepth 100000 in
theorem hold_Recoup.calls (k : Nat) (A0_0 : Option Addr) (c0_0 : Nat) (l0_0 : List (List (S30))) (A0_1 : Option Addr) (c0_1 : Nat) (l0_1 : List (S130)) (A0_2 : Option Addr) (c0_2 : Nat) (l0_2 : List (S132)) (a0_3 : Int) (a0_4 : Int) (a1_0 : Int) (a1_1 : Int) (a2 : Int) (a3 : Int) (r1 : List Int) (r2 : Int) (r3 : Int) (w : World) (hr0_0 : Kd.C (Kd.slice 30 k30) w A0_0 l0_0.length l0_0) (hc0_0 : l0_0.length ≤ c0_0) (hr0_1 : Kd.C k130 w A0_1 l0_1.length l0_1) (hc0_1 : l0_1.length ≤ c0_1) (hr0_2 : Kd.C k132 w A0_2 l0_2.length l0_2) (hc0_2 : l0_2.length ≤ c0_2) (h : hold_Recoup.f k l0_0 l0_1 l0_2 a0_3 a0_4 a1_0 a1_1 a2 a3 = some (r1, r2, r3)) :
    Calls Try.prog 37 #[.agg #[.slice A0_0 l0_0.length c0_0, .slice A0_1 l0_1.length c0_1, .slice A0_2 l0_2.length c0_2, .int .i64 a0_3, .int .i64 a0_4], .agg #[.int .i64 a1_0, .int .i64 a1_1], .int .i64 a2, .int .i64 a3] w fun e w' => ∃ v0_ : Value, e = .returned (.tuple #[.agg #[v0_, .int .i64 r2], .int .i64 r3]) ∧ Kd.R (Kd.int .i64) 2 w' w.heap.size (fun _ => True) v0_ r1 ∧ Below w.heap.size w w' := by
  have hu55 := Try.underlying55
  have hu47 := Try.underlying47
  have hu84 := Try.underlying84
  have HR0_0 := Aside0.mk hr0_0
  have HC0_0 := Aside0.mk hc0_0
  clear hr0_0 hc0_0
  have HR0_1 := Aside0.mk hr0_1
  have HC0_1 := Aside0.mk hc0_1
  clear hr0_1 hc0_1
  have HR0_2 := Aside0.mk hr0_2
  have HC0_2 := Aside0.mk hc0_2
  clear hr0_2 hc0_2
  have HB := Aside0.mk (Below.refl w.heap.size w)
  have H : (if a3 < 0 then (hold_Recoup.j0 k a2 a3 true l0_0 l0_1 l0_2 a0_3 a0_4 a1_0 a1_1) else (hold_Recoup.j0 k a2 a3 (decide (a3 > 600)) l0_0 l0_1 l0_2 a0_3 a0_4 a1_0 a1_1)) = some (r1, r2, r3) := h
  clear h
  have HC5 := Aside0.mk H
  clear H
  go_enter Try.func37, Try.ntmps37
  go_upto_region 1 with (first | ((with_reducible refine gate_dst (N := 4) rfl ?_); refine box_event ?hg (N := 4) ?hd (cs := #[.slice A0_0 l0_0.length c0_0, .slice A0_1 l0_1.length c0_1, .slice A0_2 l0_2.length c0_2, .int .i64 a0_3, .int .i64 a0_4]) (t := 55) ?hr ?_; (case hd => rfl); (case hg => rfl); (case hr => first | (go_simp; done) | (go_simp; rfl)); intro gb384 hg w6 hbox hb; have n0_ := Aside0.mk (below_step (by repeat (first | (with_reducible first | exact HB.out | apply below_alloc | apply pw_below_drewN | apply below_drew1) | exact HB.out)) hb); have n1_ := Aside0.mk (hbox); have n2_ := Aside0.mk ((by rw [hg]; exact (below_size (by repeat (first | (with_reducible first | exact HB.out | apply below_alloc | apply pw_below_drewN | apply below_drew1) | exact HB.out))) : w.heap.size ≤ gb384)); have n3_ := Aside0.mk ((by rw [hg]; exact (below_size (by repeat (first | (with_reducible first | exact HB.out | apply below_alloc | apply pw_below_drewN | apply below_drew1) | exact HB.out))) : w.heap.size ≤ gb384)); clear HB; have HB := n0_; have BK384 := n1_; have GW384 := n2_; have GE384 := n3_; clear n0_ n1_ n2_ n3_; clear hb hbox hg) | ((with_reducible refine gate_dst (N := 5) rfl ?_); refine box_event ?hg (N := 5) ?hd (cs := #[.int .i64 a1_0, .int .i64 a1_1]) (t := 47) ?hr ?_; (case hd => rfl); (case hg => rfl); (case hr => first | (go_simp; done) | (go_simp; rfl)); intro gb385 hg w7 hbox hb; have n0_ := Aside0.mk (blk_below (g := gb384) (o := .cells #[.slice A0_0 l0_0.length c0_0, .slice A0_1 l0_1.length c0_1, .slice A0_2 l0_2.length c0_2, .int .i64 a0_3, .int .i64 a0_4] 55 (0, 0)) (by (with_reducible repeat (first | refine blk_drewN ?_ _ | refine blk_drew ?_ | refine blk_alloc ?_ _)); exact BK384.out) hb); have n1_ := Aside0.mk (below_step (by repeat (first | (with_reducible first | exact HB.out | apply below_alloc | apply pw_below_drewN | apply below_drew1 | refine below_set ?_ GE384.out) | exact HB.out)) hb); have n2_ := Aside0.mk (hbox); have n3_ := Aside0.mk ((by rw [hg]; exact (below_size (by repeat (first | (with_reducible first | exact HB.out | apply below_alloc | apply pw_below_drewN | apply below_drew1 | refine below_set ?_ GE384.out) | exact HB.out))) : w.heap.size ≤ gb385)); have n4_ := Aside0.mk ((by rw [hg]; exact (below_size (by repeat (first | (with_reducible first | exact HB.out | apply below_alloc | apply pw_below_drewN | apply below_drew1 | refine below_set ?_ GE384.out) | exact HB.out))) : w.heap.size ≤ gb385)); have n5_ := Aside0.mk ((by rw [hg]; exact Nat.ne_of_lt (blk_lt (g := gb384) (o := .cells #[.slice A0_0 l0_0.length c0_0, .slice A0_1 l0_1.length c0_1, .slice A0_2 l0_2.length c0_2, .int .i64 a0_3, .int .i64 a0_4] 55 (0, 0)) (by (with_reducible repeat (first | refine blk_drewN ?_ _ | refine blk_drew ?_ | refine blk_alloc ?_ _)); exact BK384.out)) : gb384 ≠ gb385)); have n6_ := Aside0.mk ((by rw [hg]; exact Nat.ne_of_gt (blk_lt (g := gb384) (o := .cells #[.slice A0_0 l0_0.length c0_0, .slice A0_1 l0_1.length c0_1, .slice A0_2 l0_2.length c0_2, .int .i64 a0_3, .int .i64 a0_4] 55 (0, 0)) (by (with_reducible repeat (first | refine blk_drewN ?_ _ | refine blk_drew ?_ | refine blk_alloc ?_ _)); exact BK384.out)) : gb385 ≠ gb384)); clear BK384; clear HB; have BK384 := n0_; have HB := n1_; have BK385 := n2_; have GW385 := n3_; have GE385 := n4_; have NB384_385 := n5_; have NB385_384 := n6_; clear n0_ n1_ n2_ n3_ n4_ n5_ n6_; clear hb hbox hg) | ((with_reducible refine gate_dst (N := 8) rfl ?_); refine box_event ?hg (N := 8) ?hd (cs := #[.slice none 0 0, .int .i64 0]) (t := 84) ?hr ?_; (case hd => rfl); (case hg => rfl); (case hr => first | (go_simp; done) | (go_simp; rfl)); intro gb386 hg w8 hbox hb; have n0_ := Aside0.mk (blk_below (g := gb384) (o := .cells #[.slice A0_0 l0_0.length c0_0, .slice A0_1 l0_1.length c0_1, .slice A0_2 l0_2.length c0_2, .int .i64 a0_3, .int .i64 a0_4] 55 (0, 0)) (by (with_reducible repeat (first | refine blk_drewN ?_ _ | refine blk_drew ?_ | refine blk_alloc ?_ _)); exact BK384.out) hb); have n1_ := Aside0.mk (blk_below (g := gb385) (o := .cells #[.int .i64 a1_0, .int .i64 a1_1] 47 (0, 0)) (by (with_reducible repeat (first | refine blk_drewN ?_ _ | refine blk_drew ?_ | refine blk_alloc ?_ _)); exact BK385.out) hb); have n2_ := Aside0.mk (below_step (by repeat (first | (with_reducible first | exact HB.out | apply below_alloc | apply pw_below_drewN | apply below_drew1 | refine below_set ?_ GE384.out | refine below_set ?_ GE385.out) | exact HB.out)) hb); have n3_ := Aside0.mk (hbox); have n4_ := Aside0.mk ((by rw [hg]; exact (below_size (by repeat (first | (with_reducible first | exact HB.out | apply below_alloc | apply pw_below_drewN | apply below_drew1 | refine below_set ?_ GE384.out | refine below_set ?_ GE385.out) | exact HB.out))) : w.heap.size ≤ gb386)); have n5_ := Aside0.mk ((by rw [hg]; exact (below_size (by repeat (first | (with_reducible first | exact HB.out | apply below_alloc | apply pw_below_drewN | apply below_drew1 | refine below_set ?_ GE384.out | refine below_set ?_ GE385.out) | exact HB.out))) : w.heap.size ≤ gb386)); have n6_ := Aside0.mk ((by rw [hg]; exact Nat.ne_of_lt (blk_lt (g := gb384) (o := .cells #[.slice A0_0 l0_0.length c0_0, .slice A0_1 l0_1.length c0_1, .slice A0_2 l0_2.length c0_2, .int .i64 a0_3, .int .i64 a0_4] 55 (0, 0)) (by (with_reducible repeat (first | refine blk_drewN ?_ _ | refine blk_drew ?_ | refine blk_alloc ?_ _)); exact BK384.out)) : gb384 ≠ gb386)); have n7_ := Aside0.mk ((by rw [hg]; exact Nat.ne_of_gt (blk_lt (g := gb384) (o := .cells #[.slice A0_0 l0_0.length c0_0, .slice A0_1 l0_1.length c0_1, .slice A0_2 l0_2.length c0_2, .int .i64 a0_3, .int .i64 a0_4] 55 (0, 0)) (by (with_reducible repeat (first | refine blk_drewN ?_ _ | refine blk_drew ?_ | refine blk_alloc ?_ _)); exact BK384.out)) : gb386 ≠ gb384)); have n8_ := Aside0.mk ((by rw [hg]; exact Nat.ne_of_lt (blk_lt (g := gb385) (o := .cells #[.int .i64 a1_0, .int .i64 a1_1] 47 (0, 0)) (by (with_reducible repeat (first | refine blk_drewN ?_ _ | refine blk_drew ?_ | refine blk_alloc ?_ _)); exact BK385.out)) : gb385 ≠ gb386)); have n9_ := Aside0.mk ((by rw [hg]; exact Nat.ne_of_gt (blk_lt (g := gb385) (o := .cells #[.int .i64 a1_0, .int .i64 a1_1] 47 (0, 0)) (by (with_reducible repeat (first | refine blk_drewN ?_ _ | refine blk_drew ?_ | refine blk_alloc ?_ _)); exact BK385.out)) : gb386 ≠ gb385)); clear BK384; clear BK385; clear HB; have BK384 := n0_; have BK385 := n1_; have HB := n2_; have BK386 := n3_; have GW386 := n4_; have GE386 := n5_; have NB384_386 := n6_; have NB386_384 := n7_; have NB385_386 := n8_; have NB386_385 := n9_; clear n0_ n1_ n2_ n3_ n4_ n5_ n6_ n7_ n8_ n9_; clear hb hbox hg))
  (try simp only [Act.put, List.setIfInBounds_toArray, List.set_cons_zero, List.set_cons_succ])
  go_cut [20] (fun v20 wc => ∃ (kq : Nat) (x20_4 : Bool), v20 = .bool x20_4 ∧ Aside0 (hold_Recoup.j0 kq a2 a3 x20_4 l0_0 l0_1 l0_2 a0_3 a0_4 a1_0 a1_1 = some (r1, r2, r3)) ∧ Aside0 (kq ≤ k) ∧ Aside0 (wc.heap[gb384]? = some (.cells #[(.slice A0_0 l0_0.length c0_0), (.slice A0_1 l0_1.length c0_1), (.slice A0_2 l0_2.length c0_2), .int .i64 a0_3, .int .i64 a0_4] 55 (0, 0))) ∧ Aside0 (wc.heap[gb385]? = some (.cells #[.int .i64 a1_0, .int .i64 a1_1] 47 (0, 0))) ∧ Aside0 (wc.heap[gb386]? = some (.cells #[(.slice none 0 0), .int .i64 0] 84 (0, 0))) ∧ Aside0 (Below w.heap.size w wc))
  case first => as_aux_lemma =>
    have H := HC5.out
    clear HC5
    by_cases c9 : a3 < 0
    · rw [if_pos c9] at H
      have c9b0 : decide (a3 < 0) = true := decide_eq_true c9
      clear c9
      (first | rw [c9b0] | (simp only [i64_w, i32_w]; rw [c9b0]) | skip)
      have H' := Aside0.mk H
      clear H
      go_wp2
      go_meet
      case rel => exact ⟨_, (true), (by first | rfl | (simp; done) | (simp [*]; done)), H', ⟨by first | omega | exact Nat.le_refl _⟩, ⟨by (with_reducible repeat (first | refine blk_drewN ?_ _ | refine blk_drew ?_ | refine blk_alloc ?_ _)); exact BK384.out⟩, ⟨by (with_reducible repeat (first | refine blk_drewN ?_ _ | refine blk_drew ?_ | refine blk_alloc ?_ _)); exact BK385.out⟩, ⟨by (with_reducible repeat (first | refine blk_drewN ?_ _ | refine blk_drew ?_ | refine blk_alloc ?_ _)); exact BK386.out⟩, ⟨by repeat (first | (with_reducible first | exact HB.out | apply below_alloc | apply pw_below_drewN | apply below_drew1 | refine below_set ?_ GE384.out | refine below_set ?_ GE385.out | refine below_set ?_ GE386.out) | exact HB.out)⟩⟩
    · rw [if_neg c9] at H
      have c9b0 : decide (a3 < 0) = false := decide_eq_false c9
      clear c9
      (first | rw [c9b0] | (simp only [i64_w, i32_w]; rw [c9b0]) | skip)
      have H' := Aside0.mk H
      clear H
      go_wp2
      go_meet
      case rel => exact ⟨_, (decide (a3 > 600)), (by first | rfl | (simp; done) | (simp [*]; done)), H', ⟨by first | omega | exact Nat.le_refl _⟩, ⟨by (with_reducible repeat (first | refine blk_drewN ?_ _ | refine blk_drew ?_ | refine blk_alloc ?_ _)); exact BK384.out⟩, ⟨by (with_reducible repeat (first | refine blk_drewN ?_ _ | refine blk_drew ?_ | refine blk_alloc ?_ _)); exact BK385.out⟩, ⟨by (with_reducible repeat (first | refine blk_drewN ?_ _ | refine blk_drew ?_ | refine blk_alloc ?_ _)); exact BK386.out⟩, ⟨by repeat (first | (with_reducible first | exact HB.out | apply below_alloc | apply pw_below_drewN | apply below_drew1 | refine below_set ?_ GE384.out | refine below_set ?_ GE385.out | refine below_set ?_ GE386.out) | exact HB.out)⟩⟩
  case rest => as_aux_lemma =>
    clear HC5
    try clear p2
    try clear c3
    try clear c9
    try clear c9b0
    obtain ⟨kq, x20_4, rfl, HA, HJ4, BK384, BK385, BK386, HB⟩ := hcut
    cases kq with
    | zero => exact absurd HA.out (by simp [hold_Recoup.j0])
    | succ kj4 =>
      have H := HA.out
      clear HA
      simp only [hold_Recoup.j0] at H
      by_cases c10 : x20_4 = true
      · subst c10
        have H1 : (some (([] : List Int), 0, 2)) = some (r1, r2, r3) := by rw [if_pos rfl] at H; exact H
        clear H
        have H := H1
        clear H1
        simp only [Option.some.injEq, Prod.mk.injEq] at H
        obtain ⟨rfl, rfl, rfl⟩ := H
        have hnb11 := NB386_384.out
        have hnc11 := NB384_386.out
        have hnb12 := NB386_385.out
        have hnc12 := NB385_386.out
        have hcz13_0 : wc.cell? ⟨gb386, 0, none⟩ = some (.slice none 0 0) := (blk_cell BK386.out 0).trans rfl
        have hcz13_1 : wc.cell? ⟨gb386, 1, none⟩ = some (.int .i64 0) := (blk_cell BK386.out 1).trans rfl
        have hfz13_0 := blk_frozen BK386.out 0
        have hfz13_1 := blk_frozen BK386.out 1
        go_wp2
        refine bodyPost_ret (results_ct rfl _ _ gb386 84 #[.slice none 0 0, .int .i64 0] (0, 0) _ rfl (by (with_reducible repeat (first | refine blk_drewN ?_ _ | refine blk_drew ?_ | refine blk_alloc ?_ _)); refine blk_put (cs := #[.slice none 0 0, .int .i64 0]) ?_ 1 _ rfl; (with_reducible repeat (first | refine blk_drewN ?_ _ | refine blk_drew ?_ | refine blk_alloc ?_ _)); refine blk_put (cs := #[.slice none 0 0, .int .i64 0]) ?_ 0 _ rfl; (with_reducible repeat (first | refine blk_drewN ?_ _ | refine blk_drew ?_ | refine blk_alloc ?_ _)); exact BK386.out) Try.underlying84 rfl (by kernel_rfl)) rfl ?_
        exact ⟨_, by first | rfl | (simp [errW_none, errW_some] <;> rfl) | (simp [*, errW_none, errW_some] <;> rfl), by first | exact Kd.R_nil _ _ _ _ _ | exact Kd.N_nil _ _ _ _ _ | exact Kd.V_nil _ _ _ _ _ | exact Kd.Q_nil _ _ _ _ _ | exact Kd.S_nil _ _ _ _ _, by repeat (first | (with_reducible first | exact HB.out | apply below_alloc | apply pw_below_drewN | apply below_drew1 | refine below_set ?_ GE384.out | refine below_set ?_ GE385.out | refine below_set ?_ GE386.out) | exact HB.out)⟩
      · replace c10 := Bool.eq_false_iff.mpr c10
        subst c10
        have H1 : ((money_Right.f kj4 (([a1_0, a1_1] : List Int))).bind fun t390 => (if t390 = true then ((hold_State_Due.f a1_0 a1_1).bind fun t391 => ((money_Right.f kj4 (([t391] : List Int))).bind fun t395 => (hold_Recoup.j1 kj4 a2 a3 (!t395) l0_0 l0_1 l0_2 a0_3 a0_4 a1_0 a1_1))) else (hold_Recoup.j1 kj4 a2 a3 true l0_0 l0_1 l0_2 a0_3 a0_4 a1_0 a1_1))) = some (r1, r2, r3) := by rw [if_neg (show ¬ (false = true) by decide)] at H; exact H
        clear H
        have H := H1
        clear H1
        have HC14 := Aside0.mk H
        clear H
        go_upto_region 3 with (fail)
        go_cut [35] (fun v35 wc => ∃ (kq : Nat) (x35_13 : Bool), v35 = .bool x35_13 ∧ Aside0 (hold_Recoup.j1 kq a2 a3 x35_13 l0_0 l0_1 l0_2 a0_3 a0_4 a1_0 a1_1 = some (r1, r2, r3)) ∧ Aside0 (kq ≤ kj4) ∧ Aside0 (wc.heap[gb384]? = some (.cells #[(.slice A0_0 l0_0.length c0_0), (.slice A0_1 l0_1.length c0_1), (.slice A0_2 l0_2.length c0_2), .int .i64 a0_3, .int .i64 a0_4] 55 (0, 0))) ∧ Aside0 (wc.heap[gb385]? = some (.cells #[.int .i64 a1_0, .int .i64 a1_1] 47 (0, 0))) ∧ Aside0 (wc.heap[gb386]? = some (.cells #[(.slice none 0 0), .int .i64 0] 84 (0, 0))) ∧ Aside0 (Below w.heap.size w wc))
        case first => as_aux_lemma =>
          have H := HC14.out
          clear HC14
          obtain ⟨y387, hy387⟩ : ∃ y_ : List Int, y_ = (([a1_0, a1_1] : List Int)) := ⟨_, rfl⟩
          replace H : ((money_Right.f kj4 y387).bind fun t390 => (if t390 = true then ((hold_State_Due.f a1_0 a1_1).bind fun t391 => ((money_Right.f kj4 (([t391] : List Int))).bind fun t395 => (hold_Recoup.j1 kj4 a2 a3 (!t395) l0_0 l0_1 l0_2 a0_3 a0_4 a1_0 a1_1))) else (hold_Recoup.j1 kj4 a2 a3 true l0_0 l0_1 l0_2 a0_3 a0_4 a1_0 a1_1))) = some (r1, r2, r3) := by first | (rw [hy387]; with_reducible exact H) | (have H2_ := (Option.bind_some _ _).symm.trans H; rw [hy387]; with_reducible exact H2_) | (have H2_ := (Option.bind_some _ _).symm.trans H; with_reducible exact H2_) | with_reducible exact H | (rw [hy387]; exact H) | exact H
          have Ny387 := Aside0.mk hy387
          clear hy387
          replace H := Option.bind_eq_some_iff.mp H
          obtain ⟨t390, A150, H⟩ := H
          replace H : (if t390 = true then ((hold_State_Due.f a1_0 a1_1).bind fun t391 => ((money_Right.f kj4 (([t391] : List Int))).bind fun t395 => (hold_Recoup.j1 kj4 a2 a3 (!t395) l0_0 l0_1 l0_2 a0_3 a0_4 a1_0 a1_1))) else (hold_Recoup.j1 kj4 a2 a3 true l0_0 l0_1 l0_2 a0_3 a0_4 a1_0 a1_1)) = some (r1, r2, r3) := H
          have A15 := Aside0.mk A150
          clear A150
          by_cases c16 : t390 = true
          · subst c16
            have H1 : ((hold_State_Due.f a1_0 a1_1).bind fun t391 => ((money_Right.f kj4 (([t391] : List Int))).bind fun t395 => (hold_Recoup.j1 kj4 a2 a3 (!t395) l0_0 l0_1 l0_2 a0_3 a0_4 a1_0 a1_1))) = some (r1, r2, r3) := by rw [if_pos rfl] at H; exact H
            clear H
            have H := H1
            clear H1
            replace H := Option.bind_eq_some_iff.mp H
            obtain ⟨t391, A170, H⟩ := H
            replace H : ((money_Right.f kj4 (([t391] : List Int))).bind fun t395 => (hold_Recoup.j1 kj4 a2 a3 (!t395) l0_0 l0_1 l0_2 a0_3 a0_4 a1_0 a1_1)) = some (r1, r2, r3) := H
            have A17 := Aside0.mk A170
            clear A170
            obtain ⟨y392, hy392⟩ : ∃ y_ : List Int, y_ = (([t391] : List Int)) := ⟨_, rfl⟩
            replace H : ((money_Right.f kj4 y392).bind fun t395 => (hold_Recoup.j1 kj4 a2 a3 (!t395) l0_0 l0_1 l0_2 a0_3 a0_4 a1_0 a1_1)) = some (r1, r2, r3) := by first | (rw [hy392]; with_reducible exact H) | (have H2_ := (Option.bind_some _ _).symm.trans H; rw [hy392]; with_reducible exact H2_) | (have H2_ := (Option.bind_some _ _).symm.trans H; with_reducible exact H2_) | with_reducible exact H | (rw [hy392]; exact H) | exact H
            have Ny392 := Aside0.mk hy392
            clear hy392
            replace H := Option.bind_eq_some_iff.mp H
            obtain ⟨t395, A180, H⟩ := H
            replace H : (hold_Recoup.j1 kj4 a2 a3 (!t395) l0_0 l0_1 l0_2 a0_3 a0_4 a1_0 a1_1) = some (r1, r2, r3) := H
            have A18 := Aside0.mk A180
            clear A180
            have H' := Aside0.mk H
            clear H
            have hnb19 := NB385_384.out
            have hnc19 := NB384_385.out
            have hnb20 := NB385_386.out
            have hnc20 := NB386_385.out
            have hcz21_0 : wc.cell? ⟨gb385, 0, none⟩ = some (.int .i64 a1_0) := (blk_cell BK385.out 0).trans rfl
            have hcz21_1 : wc.cell? ⟨gb385, 1, none⟩ = some (.int .i64 a1_1) := (blk_cell BK385.out 1).trans rfl
            have hfz21_0 := blk_frozen BK385.out 0
            have hfz21_1 := blk_frozen BK385.out 1
            go_wp2_with (first | ((with_reducible refine gate_dst (N := 26) rfl ?_); refine Kd.R_lit (Kd.int .i64) _ 2 ?hg (N := 26) ?hd (xs := ([a1_0, a1_1] : List Int)) (inner := [.int .i64 a1_0, .int .i64 a1_1]) (ok := fun _ => True) (okp := fun _ => True) ?hr ?hp (fun _ hk => hk) trivial (Below.refl _ _) (Nat.le_refl _) (by simp) ?_; (case hd => rfl); (case hg => rfl); (case hr => first | (go_simp; done) | (go_simp; rfl)); (case hp => exact (Reps.one (show Kd.M (Kd.int .i64) _ _ _ a1_0 [.int .i64 a1_0] from rfl) (Reps.one (show Kd.M (Kd.int .i64) _ _ _ a1_1 [.int .i64 a1_1] from rfl) (Reps.none _ _)))); intro v388 w22 ho23 hb hg_ hnew_; clear hg_ hnew_; (first | rw [← Ny387.out] at ho23 | (simp only [Int.reduceToNat] at ho23; rw [← Ny387.out] at ho23)); have n0_ := Aside0.mk (Kd.R_lower ho23 (below_size (by repeat (first | (with_reducible first | exact HB.out | apply below_alloc | apply pw_below_drewN | apply below_drew1 | refine below_set ?_ GE384.out | refine below_set ?_ GE385.out | refine below_set ?_ GE386.out) | exact HB.out)))); have n1_ := Aside0.mk (blk_below (g := gb384) (o := .cells #[.slice A0_0 l0_0.length c0_0, .slice A0_1 l0_1.length c0_1, .slice A0_2 l0_2.length c0_2, .int .i64 a0_3, .int .i64 a0_4] 55 (0, 0)) (by (with_reducible repeat (first | refine blk_drewN ?_ _ | refine blk_drew ?_ | refine blk_alloc ?_ _)); exact BK384.out) hb); have n2_ := Aside0.mk (blk_below (g := gb385) (o := .cells #[.int .i64 a1_0, .int .i64 a1_1] 47 (0, 0)) (by (with_reducible repeat (first | refine blk_drewN ?_ _ | refine blk_drew ?_ | refine blk_alloc ?_ _)); exact BK385.out) hb); have n3_ := Aside0.mk (blk_below (g := gb386) (o := .cells #[.slice none 0 0, .int .i64 0] 84 (0, 0)) (by (with_reducible repeat (first | refine blk_drewN ?_ _ | refine blk_drew ?_ | refine blk_alloc ?_ _)); exact BK386.out) hb); have n4_ := Aside0.mk (below_step (by repeat (first | (with_reducible first | exact HB.out | apply below_alloc | apply pw_below_drewN | apply below_drew1 | refine below_set ?_ GE384.out | refine below_set ?_ GE385.out | refine below_set ?_ GE386.out) | exact HB.out)) hb); clear BK384; clear BK385; clear BK386; clear HB; have HO389 := n0_; have BK384 := n1_; have BK385 := n2_; have BK386 := n3_; have HB := n4_; clear n0_ n1_ n2_ n3_ n4_; clear hb ho23; obtain ⟨Ao24, co24, eo24⟩ := Kd.R_slice HO389.out; subst eo24) | ((with_reducible refine gate_callee (f := 42) rfl ?_); refine goesL_ (some 27) rfl rfl Try.func42 (by kernel_rfl) rfl #[.slice Ao24 y387.length co24] rfl (by (try simp only [List.map_toArray, List.map_cons, List.map_nil]); first | done | rfl | (simp only [List.length_drop, List.length_take]; rfl)) ?_; (with_reducible refine (money_Right.calls kj4 _ _ y387 true _ ?side1 ?side2 A15.out).mono ?_); (case side1 => repeat (first | exact (Kd.R_reads' HO389.out).2.2 | (with_reducible refine Kd.C_alloc ?_ _) | (with_reducible refine Kd.C_drewN ?_ _) | (with_reducible refine Kd.C_drew ?_))); (case side2 => exact (Kd.R_reads' HO389.out).2.1); rintro e w' ⟨rfl, ⟨nd, rfl⟩⟩; refine ⟨_, rfl, ?_⟩; have hcz25_0 : w22.cell? ⟨gb385, 0, none⟩ = some (.int .i64 a1_0) := (blk_cell BK385.out 0).trans rfl; have hcz25_1 : w22.cell? ⟨gb385, 1, none⟩ = some (.int .i64 a1_1) := (blk_cell BK385.out 1).trans rfl; have hfz25_0 := blk_frozen BK385.out 0; have hfz25_1 := blk_frozen BK385.out 1) | (go_at_call 27; (with_reducible refine (hold_State_Due.calls a1_0 a1_1 t391 _ A17.out).mono ?_); rintro e w26 ⟨rfl, hb⟩; have n0_ := Aside0.mk (Kd.R_below (by (with_reducible repeat (first | apply Kd.R_alloc | apply Kd.R_drewN | apply Kd.R_drew)); exact HO389.out) hb); have n1_ := Aside0.mk (blk_below (g := gb384) (o := .cells #[.slice A0_0 l0_0.length c0_0, .slice A0_1 l0_1.length c0_1, .slice A0_2 l0_2.length c0_2, .int .i64 a0_3, .int .i64 a0_4] 55 (0, 0)) (by (with_reducible repeat (first | refine blk_drewN ?_ _ | refine blk_drew ?_ | refine blk_alloc ?_ _)); exact BK384.out) hb); have n2_ := Aside0.mk (blk_below (g := gb385) (o := .cells #[.int .i64 a1_0, .int .i64 a1_1] 47 (0, 0)) (by (with_reducible repeat (first | refine blk_drewN ?_ _ | refine blk_drew ?_ | refine blk_alloc ?_ _)); exact BK385.out) hb); have n3_ := Aside0.mk (blk_below (g := gb386) (o := .cells #[.slice none 0 0, .int .i64 0] 84 (0, 0)) (by (with_reducible repeat (first | refine blk_drewN ?_ _ | refine blk_drew ?_ | refine blk_alloc ?_ _)); exact BK386.out) hb); have n4_ := Aside0.mk (below_step (by repeat (first | (with_reducible first | exact HB.out | apply below_alloc | apply pw_below_drewN | apply below_drew1 | refine below_set ?_ GE384.out | refine below_set ?_ GE385.out | refine below_set ?_ GE386.out) | exact HB.out)) hb); clear HO389; clear BK384; clear BK385; clear BK386; clear HB; have HO389 := n0_; have BK384 := n1_; have BK385 := n2_; have BK386 := n3_; have HB := n4_; clear n0_ n1_ n2_ n3_ n4_; (try clear hb); (try clear hb2); (try clear hk); (try clear hi)) | ((with_reducible refine gate_dst (N := 32) rfl ?_); refine guard_on_ (by rfl) ?_; refine Kd.R_lit (Kd.int .i64) _ 2 ?hg (N := 32) ?hd (xs := ([t391] : List Int)) (inner := [.int .i64 t391]) (ok := fun _ => True) (okp := fun _ => True) ?hr ?hp (fun _ hk => hk) trivial (Below.refl _ _) (Nat.le_refl _) (by simp) ?_; (case hd => rfl); (case hg => rfl); (case hr => first | (go_simp; done) | (go_simp; rfl)); (case hp => exact (Reps.one (show Kd.M (Kd.int .i64) _ _ _ t391 [.int .i64 t391] from rfl) (Reps.none _ _))); intro v393 w27 ho28 hb hg_ hnew_; clear hg_ hnew_; (first | rw [← Ny392.out] at ho28 | (simp only [Int.reduceToNat] at ho28; rw [← Ny392.out] at ho28)); have n0_ := Aside0.mk (Kd.R_elder' (by (with_reducible repeat (first | apply Kd.R_alloc | apply Kd.R_drewN | apply Kd.R_drew)); exact HO389.out) (Kd.R_base ho28) hb); have n1_ := Aside0.mk (Kd.R_lower (Kd.R_new' ho28 (Kd.R_lt (by (with_reducible repeat (first | apply Kd.R_alloc | apply Kd.R_drewN | apply Kd.R_drew)); exact HO389.out))) (below_size (by repeat (first | (with_reducible first | exact HB.out | apply below_alloc | apply pw_below_drewN | apply below_drew1 | refine below_set ?_ GE384.out | refine below_set ?_ GE385.out | refine below_set ?_ GE386.out) | exact HB.out)))); have n2_ := Aside0.mk (blk_below (g := gb384) (o := .cells #[.slice A0_0 l0_0.length c0_0, .slice A0_1 l0_1.length c0_1, .slice A0_2 l0_2.length c0_2, .int .i64 a0_3, .int .i64 a0_4] 55 (0, 0)) (by (with_reducible repeat (first | refine blk_drewN ?_ _ | refine blk_drew ?_ | refine blk_alloc ?_ _)); exact BK384.out) hb); have n3_ := Aside0.mk (blk_below (g := gb385) (o := .cells #[.int .i64 a1_0, .int .i64 a1_1] 47 (0, 0)) (by (with_reducible repeat (first | refine blk_drewN ?_ _ | refine blk_drew ?_ | refine blk_alloc ?_ _)); exact BK385.out) hb); have n4_ := Aside0.mk (blk_below (g := gb386) (o := .cells #[.slice none 0 0, .int .i64 0] 84 (0, 0)) (by (with_reducible repeat (first | refine blk_drewN ?_ _ | refine blk_drew ?_ | refine blk_alloc ?_ _)); exact BK386.out) hb); have n5_ := Aside0.mk (below_step (by repeat (first | (with_reducible first | exact HB.out | apply below_alloc | apply pw_below_drewN | apply below_drew1 | refine below_set ?_ GE384.out | refine below_set ?_ GE385.out | refine below_set ?_ GE386.out) | exact HB.out)) hb); clear HO389; clear BK384; clear BK385; clear BK386; clear HB; have HO389 := n0_; have HO394 := n1_; have BK384 := n2_; have BK385 := n3_; have BK386 := n4_; have HB := n5_; clear n0_ n1_ n2_ n3_ n4_ n5_; clear hb ho28; obtain ⟨Ao29, co29, eo29⟩ := Kd.R_slice HO394.out; subst eo29) | (go_at_call 42; (with_reducible refine (money_Right.calls kj4 _ _ y392 t395 _ ?side1 ?side2 A18.out).mono ?_); (case side1 => repeat (first | exact (Kd.R_reads' HO394.out).2.2 | (with_reducible refine Kd.C_alloc ?_ _) | (with_reducible refine Kd.C_drewN ?_ _) | (with_reducible refine Kd.C_drew ?_))); (case side2 => exact (Kd.R_reads' HO394.out).2.1); rintro e w' ⟨rfl, ⟨nd, rfl⟩⟩))
            go_meet
            case rel => exact ⟨_, (!t395), (by first | rfl | (simp; done) | (simp [*]; done)), H', ⟨by have := HJ4.out; first | omega | exact Nat.le_refl _⟩, ⟨by (with_reducible repeat (first | refine blk_drewN ?_ _ | refine blk_drew ?_ | refine blk_alloc ?_ _)); exact BK384.out⟩, ⟨by (with_reducible repeat (first | refine blk_drewN ?_ _ | refine blk_drew ?_ | refine blk_alloc ?_ _)); exact BK385.out⟩, ⟨by (with_reducible repeat (first | refine blk_drewN ?_ _ | refine blk_drew ?_ | refine blk_alloc ?_ _)); exact BK386.out⟩, ⟨by repeat (first | (with_reducible first | exact HB.out | apply below_alloc | apply pw_below_drewN | apply below_drew1 | refine below_set ?_ GE384.out | refine below_set ?_ GE385.out | refine below_set ?_ GE386.out) | exact HB.out)⟩⟩
          · replace c16 := Bool.eq_false_iff.mpr c16
            subst c16
            have H1 : (hold_Recoup.j1 kj4 a2 a3 true l0_0 l0_1 l0_2 a0_3 a0_4 a1_0 a1_1) = some (r1, r2, r3) := by rw [if_neg (show ¬ (false = true) by decide)] at H; exact H
            clear H
            have H := H1
            clear H1
            have H' := Aside0.mk H
            clear H
            have hnb30 := NB385_384.out
            have hnc30 := NB384_385.out
            have hnb31 := NB385_386.out
            have hnc31 := NB386_385.out
            have hcz32_0 : wc.cell? ⟨gb385, 0, none⟩ = some (.int .i64 a1_0) := (blk_cell BK385.out 0).trans rfl
            have hcz32_1 : wc.cell? ⟨gb385, 1, none⟩ = some (.int .i64 a1_1) := (blk_cell BK385.out 1).trans rfl
            have hfz32_0 := blk_frozen BK385.out 0
            have hfz32_1 := blk_frozen BK385.out 1
            go_wp2_with (first | ((with_reducible refine gate_dst (N := 26) rfl ?_); refine Kd.R_lit (Kd.int .i64) _ 2 ?hg (N := 26) ?hd (xs := ([a1_0, a1_1] : List Int)) (inner := [.int .i64 a1_0, .int .i64 a1_1]) (ok := fun _ => True) (okp := fun _ => True) ?hr ?hp (fun _ hk => hk) trivial (Below.refl _ _) (Nat.le_refl _) (by simp) ?_; (case hd => rfl); (case hg => rfl); (case hr => first | (go_simp; done) | (go_simp; rfl)); (case hp => exact (Reps.one (show Kd.M (Kd.int .i64) _ _ _ a1_0 [.int .i64 a1_0] from rfl) (Reps.one (show Kd.M (Kd.int .i64) _ _ _ a1_1 [.int .i64 a1_1] from rfl) (Reps.none _ _)))); intro v388 w33 ho34 hb hg_ hnew_; clear hg_ hnew_; (first | rw [← Ny387.out] at ho34 | (simp only [Int.reduceToNat] at ho34; rw [← Ny387.out] at ho34)); have n0_ := Aside0.mk (Kd.R_lower ho34 (below_size (by repeat (first | (with_reducible first | exact HB.out | apply below_alloc | apply pw_below_drewN | apply below_drew1 | refine below_set ?_ GE384.out | refine below_set ?_ GE385.out | refine below_set ?_ GE386.out) | exact HB.out)))); have n1_ := Aside0.mk (blk_below (g := gb384) (o := .cells #[.slice A0_0 l0_0.length c0_0, .slice A0_1 l0_1.length c0_1, .slice A0_2 l0_2.length c0_2, .int .i64 a0_3, .int .i64 a0_4] 55 (0, 0)) (by (with_reducible repeat (first | refine blk_drewN ?_ _ | refine blk_drew ?_ | refine blk_alloc ?_ _)); exact BK384.out) hb); have n2_ := Aside0.mk (blk_below (g := gb385) (o := .cells #[.int .i64 a1_0, .int .i64 a1_1] 47 (0, 0)) (by (with_reducible repeat (first | refine blk_drewN ?_ _ | refine blk_drew ?_ | refine blk_alloc ?_ _)); exact BK385.out) hb); have n3_ := Aside0.mk (blk_below (g := gb386) (o := .cells #[.slice none 0 0, .int .i64 0] 84 (0, 0)) (by (with_reducible repeat (first | refine blk_drewN ?_ _ | refine blk_drew ?_ | refine blk_alloc ?_ _)); exact BK386.out) hb); have n4_ := Aside0.mk (below_step (by repeat (first | (with_reducible first | exact HB.out | apply below_alloc | apply pw_below_drewN | apply below_drew1 | refine below_set ?_ GE384.out | refine below_set ?_ GE385.out | refine below_set ?_ GE386.out) | exact HB.out)) hb); clear BK384; clear BK385; clear BK386; clear HB; have HO389 := n0_; have BK384 := n1_; have BK385 := n2_; have BK386 := n3_; have HB := n4_; clear n0_ n1_ n2_ n3_ n4_; clear hb ho34; obtain ⟨Ao35, co35, eo35⟩ := Kd.R_slice HO389.out; subst eo35) | ((with_reducible refine gate_callee (f := 42) rfl ?_); refine goesL_ (some 27) rfl rfl Try.func42 (by kernel_rfl) rfl #[.slice Ao35 y387.length co35] rfl (by (try simp only [List.map_toArray, List.map_cons, List.map_nil]); first | done | rfl | (simp only [List.length_drop, List.length_take]; rfl)) ?_; (with_reducible refine (money_Right.calls kj4 _ _ y387 false _ ?side1 ?side2 A15.out).mono ?_); (case side1 => repeat (first | exact (Kd.R_reads' HO389.out).2.2 | (with_reducible refine Kd.C_alloc ?_ _) | (with_reducible refine Kd.C_drewN ?_ _) | (with_reducible refine Kd.C_drew ?_))); (case side2 => exact (Kd.R_reads' HO389.out).2.1); rintro e w' ⟨rfl, ⟨nd, rfl⟩⟩; refine ⟨_, rfl, ?_⟩))
            go_meet
            case rel => exact ⟨_, (true), (by first | rfl | (simp; done) | (simp [*]; done)), H', ⟨by have := HJ4.out; first | omega | exact Nat.le_refl _⟩, ⟨by (with_reducible repeat (first | refine blk_drewN ?_ _ | refine blk_drew ?_ | refine blk_alloc ?_ _)); exact BK384.out⟩, ⟨by (with_reducible repeat (first | refine blk_drewN ?_ _ | refine blk_drew ?_ | refine blk_alloc ?_ _)); exact BK385.out⟩, ⟨by (with_reducible repeat (first | refine blk_drewN ?_ _ | refine blk_drew ?_ | refine blk_alloc ?_ _)); exact BK386.out⟩, ⟨by repeat (first | (with_reducible first | exact HB.out | apply below_alloc | apply pw_below_drewN | apply below_drew1 | refine below_set ?_ GE384.out | refine below_set ?_ GE385.out | refine below_set ?_ GE386.out) | exact HB.out)⟩⟩
        case rest => as_aux_lemma =>
          clear HC14
          try clear c1
          try clear c2
          try clear p2
          try clear c3
          try clear c4
          try clear c9
          try clear c9b0
          try clear c10
          try clear c11
          try clear c12
          try clear c16
          try clear c19
          try clear c20
          try clear c30
          try clear c31
          try clear hcz13_0
          try clear hcz13_1
          try clear hcz21_0
          try clear hcz21_1
          try clear hcz25_0
          try clear hcz25_1
          try clear hcz32_0
          try clear hcz32_1
          try clear hfz13_0
          try clear hfz13_1
          try clear hfz21_0
          try clear hfz21_1
          try clear hfz25_0
          try clear hfz25_1
          try clear hfz32_0
          try clear hfz32_1
          try clear p2
          obtain ⟨kq, x35_13, rfl, HA, HJ13, BK384, BK385, BK386, HB⟩ := hcut
          cases kq with
          | zero => exact absurd HA.out (by simp [hold_Recoup.j1])
          | succ kj13 =>
            have H := HA.out
            clear HA
            simp only [hold_Recoup.j1] at H
            by_cases c36 : x35_13 = true
            · subst c36
              have H1 : (some (([] : List Int), 0, 10)) = some (r1, r2, r3) := by rw [if_pos rfl] at H; exact H
              clear H
              have H := H1
              clear H1
              simp only [Option.some.injEq, Prod.mk.injEq] at H
              obtain ⟨rfl, rfl, rfl⟩ := H
              have hnb37 := NB386_384.out
              have hnc37 := NB384_386.out
              have hnb38 := NB386_385.out
              have hnc38 := NB385_386.out
              have hcz39_0 : wc.cell? ⟨gb386, 0, none⟩ = some (.slice none 0 0) := (blk_cell BK386.out 0).trans rfl
              have hcz39_1 : wc.cell? ⟨gb386, 1, none⟩ = some (.int .i64 0) := (blk_cell BK386.out 1).trans rfl
              have hfz39_0 := blk_frozen BK386.out 0
              have hfz39_1 := blk_frozen BK386.out 1
              go_wp2
              refine bodyPost_ret (results_ct rfl _ _ gb386 84 #[.slice none 0 0, .int .i64 0] (0, 0) _ rfl (by (with_reducible repeat (first | refine blk_drewN ?_ _ | refine blk_drew ?_ | refine blk_alloc ?_ _)); refine blk_put (cs := #[.slice none 0 0, .int .i64 0]) ?_ 1 _ rfl; (with_reducible repeat (first | refine blk_drewN ?_ _ | refine blk_drew ?_ | refine blk_alloc ?_ _)); refine blk_put (cs := #[.slice none 0 0, .int .i64 0]) ?_ 0 _ rfl; (with_reducible repeat (first | refine blk_drewN ?_ _ | refine blk_drew ?_ | refine blk_alloc ?_ _)); exact BK386.out) Try.underlying84 rfl (by kernel_rfl)) rfl ?_
              exact ⟨_, by first | rfl | (simp [errW_none, errW_some] <;> rfl) | (simp [*, errW_none, errW_some] <;> rfl), by first | exact Kd.R_nil _ _ _ _ _ | exact Kd.N_nil _ _ _ _ _ | exact Kd.V_nil _ _ _ _ _ | exact Kd.Q_nil _ _ _ _ _ | exact Kd.S_nil _ _ _ _ _, by repeat (first | (with_reducible first | exact HB.out | apply below_alloc | apply pw_below_drewN | apply below_drew1 | refine below_set ?_ GE384.out | refine below_set ?_ GE385.out | refine below_set ?_ GE386.out) | exact HB.out)⟩
            · replace c36 := Bool.eq_false_iff.mpr c36
              subst c36
              have H1 : ((hold_State_Due.f a1_0 a1_1).bind fun t396 => (hold_Recoup.l0 kj13 a2 a3 t396 l0_0 l0_1 l0_2 a0_3 a0_4 a1_0 a1_1 ([] : List Int) 0)) = some (r1, r2, r3) := by rw [if_neg (show ¬ (false = true) by decide)] at H; exact H
              clear H
              have H := H1
              clear H1
              replace H := Option.bind_eq_some_iff.mp H
              obtain ⟨t396, A400, H⟩ := H
              replace H : (hold_Recoup.l0 kj13 a2 a3 t396 l0_0 l0_1 l0_2 a0_3 a0_4 a1_0 a1_1 ([] : List Int) 0) = some (r1, r2, r3) := H
              have A40 := Aside0.mk A400
              clear A400
              have H' := Aside0.mk H
              clear H
              have hnb41 := NB385_384.out
              have hnc41 := NB384_385.out
              have hnb42 := NB385_386.out
              have hnc42 := NB386_385.out
              have hcz43_0 : wc.cell? ⟨gb385, 0, none⟩ = some (.int .i64 a1_0) := (blk_cell BK385.out 0).trans rfl
              have hcz43_1 : wc.cell? ⟨gb385, 1, none⟩ = some (.int .i64 a1_1) := (blk_cell BK385.out 1).trans rfl
              have hfz43_0 := blk_frozen BK385.out 0
              have hfz43_1 := blk_frozen BK385.out 1
              go_wp2_with (first | ((with_reducible refine gate_callee (f := 27) rfl ?_); refine goesL_ (some 38) rfl rfl Try.func27 (by kernel_rfl) rfl #[.agg #[.int .i64 a1_0, .int .i64 a1_1]] rfl (by (try simp only [List.map_toArray, List.map_cons, List.map_nil]); first | done | rfl | (simp only [List.length_drop, List.length_take]; rfl)) ?_; (with_reducible refine (hold_State_Due.calls a1_0 a1_1 t396 _ A40.out).mono ?_); rintro e w44 ⟨rfl, hb⟩; refine ⟨_, rfl, ?_⟩; have n0_ := Aside0.mk (blk_below (g := gb384) (o := .cells #[.slice A0_0 l0_0.length c0_0, .slice A0_1 l0_1.length c0_1, .slice A0_2 l0_2.length c0_2, .int .i64 a0_3, .int .i64 a0_4] 55 (0, 0)) (by (with_reducible repeat (first | refine blk_drewN ?_ _ | refine blk_drew ?_ | refine blk_alloc ?_ _)); exact BK384.out) hb); have n1_ := Aside0.mk (blk_below (g := gb385) (o := .cells #[.int .i64 a1_0, .int .i64 a1_1] 47 (0, 0)) (by (with_reducible repeat (first | refine blk_drewN ?_ _ | refine blk_drew ?_ | refine blk_alloc ?_ _)); exact BK385.out) hb); have n2_ := Aside0.mk (blk_below (g := gb386) (o := .cells #[.slice none 0 0, .int .i64 0] 84 (0, 0)) (by (with_reducible repeat (first | refine blk_drewN ?_ _ | refine blk_drew ?_ | refine blk_alloc ?_ _)); exact BK386.out) hb); have n3_ := Aside0.mk (below_step (by repeat (first | (with_reducible first | exact HB.out | apply below_alloc | apply pw_below_drewN | apply below_drew1 | refine below_set ?_ GE384.out | refine below_set ?_ GE385.out | refine below_set ?_ GE386.out) | exact HB.out)) hb); clear BK384; clear BK385; clear BK386; clear HB; have BK384 := n0_; have BK385 := n1_; have BK386 := n2_; have HB := n3_; clear n0_ n1_ n2_ n3_; (try clear hb); (try clear hb2); (try clear hk); (try clear hi)) | ((with_reducible refine gate_dst (N := 11) rfl ?_); refine box_event ?hg (N := 11) ?hd (cs := #[.slice none 0 0, .int .i64 0]) (t := 84) ?hr ?_; (case hd => rfl); (case hg => rfl); (case hr => first | (go_simp; done) | (go_simp; rfl)); intro gb397 hg w45 hbox hb; have n0_ := Aside0.mk (blk_below (g := gb384) (o := .cells #[.slice A0_0 l0_0.length c0_0, .slice A0_1 l0_1.length c0_1, .slice A0_2 l0_2.length c0_2, .int .i64 a0_3, .int .i64 a0_4] 55 (0, 0)) (by (with_reducible repeat (first | refine blk_drewN ?_ _ | refine blk_drew ?_ | refine blk_alloc ?_ _)); exact BK384.out) hb); have n1_ := Aside0.mk (blk_below (g := gb385) (o := .cells #[.int .i64 a1_0, .int .i64 a1_1] 47 (0, 0)) (by (with_reducible repeat (first | refine blk_drewN ?_ _ | refine blk_drew ?_ | refine blk_alloc ?_ _)); exact BK385.out) hb); have n2_ := Aside0.mk (blk_below (g := gb386) (o := .cells #[.slice none 0 0, .int .i64 0] 84 (0, 0)) (by (with_reducible repeat (first | refine blk_drewN ?_ _ | refine blk_drew ?_ | refine blk_alloc ?_ _)); exact BK386.out) hb); have n3_ := Aside0.mk (below_step (by repeat (first | (with_reducible first | exact HB.out | apply below_alloc | apply pw_below_drewN | apply below_drew1 | refine below_set ?_ GE384.out | refine below_set ?_ GE385.out | refine below_set ?_ GE386.out) | exact HB.out)) hb); have n4_ := Aside0.mk (hbox); have n5_ := Aside0.mk ((by rw [hg]; exact (below_size (by repeat (first | (with_reducible first | exact HB.out | apply below_alloc | apply pw_below_drewN | apply below_drew1 | refine below_set ?_ GE384.out | refine below_set ?_ GE385.out | refine below_set ?_ GE386.out) | exact HB.out))) : w.heap.size ≤ gb397)); have n6_ := Aside0.mk ((by rw [hg]; exact (below_size (by repeat (first | (with_reducible first | exact HB.out | apply below_alloc | apply pw_below_drewN | apply below_drew1 | refine below_set ?_ GE384.out | refine below_set ?_ GE385.out | refine below_set ?_ GE386.out) | exact HB.out))) : w.heap.size ≤ gb397)); have n7_ := Aside0.mk ((by rw [hg]; exact Nat.ne_of_lt (blk_lt (g := gb384) (o := .cells #[.slice A0_0 l0_0.length c0_0, .slice A0_1 l0_1.length c0_1, .slice A0_2 l0_2.length c0_2, .int .i64 a0_3, .int .i64 a0_4] 55 (0, 0)) (by (with_reducible repeat (first | refine blk_drewN ?_ _ | refine blk_drew ?_ | refine blk_alloc ?_ _)); exact BK384.out)) : gb384 ≠ gb397)); have n8_ := Aside0.mk ((by rw [hg]; exact Nat.ne_of_gt (blk_lt (g := gb384) (o := .cells #[.slice A0_0 l0_0.length c0_0, .slice A0_1 l0_1.length c0_1, .slice A0_2 l0_2.length c0_2, .int .i64 a0_3, .int .i64 a0_4] 55 (0, 0)) (by (with_reducible repeat (first | refine blk_drewN ?_ _ | refine blk_drew ?_ | refine blk_alloc ?_ _)); exact BK384.out)) : gb397 ≠ gb384)); have n9_ := Aside0.mk ((by rw [hg]; exact Nat.ne_of_lt (blk_lt (g := gb385) (o := .cells #[.int .i64 a1_0, .int .i64 a1_1] 47 (0, 0)) (by (with_reducible repeat (first | refine blk_drewN ?_ _ | refine blk_drew ?_ | refine blk_alloc ?_ _)); exact BK385.out)) : gb385 ≠ gb397)); have n10_ := Aside0.mk ((by rw [hg]; exact Nat.ne_of_gt (blk_lt (g := gb385) (o := .cells #[.int .i64 a1_0, .int .i64 a1_1] 47 (0, 0)) (by (with_reducible repeat (first | refine blk_drewN ?_ _ | refine blk_drew ?_ | refine blk_alloc ?_ _)); exact BK385.out)) : gb397 ≠ gb385)); have n11_ := Aside0.mk ((by rw [hg]; exact Nat.ne_of_lt (blk_lt (g := gb386) (o := .cells #[.slice none 0 0, .int .i64 0] 84 (0, 0)) (by (with_reducible repeat (first | refine blk_drewN ?_ _ | refine blk_drew ?_ | refine blk_alloc ?_ _)); exact BK386.out)) : gb386 ≠ gb397)); have n12_ := Aside0.mk ((by rw [hg]; exact Nat.ne_of_gt (blk_lt (g := gb386) (o := .cells #[.slice none 0 0, .int .i64 0] 84 (0, 0)) (by (with_reducible repeat (first | refine blk_drewN ?_ _ | refine blk_drew ?_ | refine blk_alloc ?_ _)); exact BK386.out)) : gb397 ≠ gb386)); clear BK384; clear BK385; clear BK386; clear HB; have BK384 := n0_; have BK385 := n1_; have BK386 := n2_; have HB := n3_; have BK397 := n4_; have GW397 := n5_; have GE397 := n6_; have NB384_397 := n7_; have NB397_384 := n8_; have NB385_397 := n9_; have NB397_385 := n10_; have NB386_397 := n11_; have NB397_386 := n12_; clear n0_ n1_ n2_ n3_ n4_ n5_ n6_ n7_ n8_ n9_ n10_ n11_ n12_; clear hb hbox hg))
              (try simp only [Act.put, List.setIfInBounds_toArray, List.set_cons_zero, List.set_cons_succ])
              go_loopg [] kj13 (fun kq w' => ∃ (x386000_3 : Int) (x386001_3 : Int) (x387001_3 : Int) (x398000_3 : List Int) (u398000 : Value), Aside0 (hold_Recoup.l0 kq a2 a3 t396 l0_0 l0_1 l0_2 a0_3 a0_4 x386000_3 x386001_3 x398000_3 0 = some (r1, r2, r3)) ∧ Aside0 (kq ≤ kj13) ∧ Aside0 (Kd.R (Kd.int .i64) 2 w' w.heap.size (fun _ => True) u398000 x398000_3) ∧ Aside0 (w'.heap[gb384]? = some (.cells #[(.slice A0_0 l0_0.length c0_0), (.slice A0_1 l0_1.length c0_1), (.slice A0_2 l0_2.length c0_2), .int .i64 a0_3, .int .i64 a0_4] 55 (0, 0))) ∧ Aside0 (w'.heap[gb385]? = some (.cells #[.int .i64 x386000_3, .int .i64 x386001_3] 47 (0, 0))) ∧ Aside0 (w'.heap[gb386]? = some (.cells #[(.slice none 0 0), .int .i64 x387001_3] 84 (0, 0))) ∧ Aside0 (w'.heap[gb397]? = some (.cells #[u398000, .int .i64 0] 84 (0, 0))) ∧ Aside0 (Below w.heap.size w w'))
              case atStart => exact ⟨(a1_0), (a1_1), (0), (([] : List Int)), (.slice none 0 0), H', ⟨Nat.le_refl _⟩, ⟨by first | exact Kd.R_nil _ _ _ _ _ | exact Kd.N_nil _ _ _ _ _ | exact Kd.V_nil _ _ _ _ _ | exact Kd.Q_nil _ _ _ _ _ | exact Kd.S_nil _ _ _ _ _⟩, ⟨by (with_reducible repeat (first | refine blk_drewN ?_ _ | refine blk_drew ?_ | refine blk_alloc ?_ _)); exact BK384.out⟩, ⟨by (with_reducible repeat (first | refine blk_drewN ?_ _ | refine blk_drew ?_ | refine blk_alloc ?_ _)); exact BK385.out⟩, ⟨by (with_reducible repeat (first | refine blk_drewN ?_ _ | refine blk_drew ?_ | refine blk_alloc ?_ _)); exact BK386.out⟩, ⟨by (with_reducible repeat (first | refine blk_drewN ?_ _ | refine blk_drew ?_ | refine blk_alloc ?_ _)); exact BK397.out⟩, ⟨by repeat (first | (with_reducible first | exact HB.out | apply below_alloc | apply pw_below_drewN | apply below_drew1 | refine below_set ?_ GE384.out | refine below_set ?_ GE385.out | refine below_set ?_ GE386.out | refine below_set ?_ GE397.out) | exact HB.out)⟩⟩
              case round =>
                clear H'
                try clear c1
                try clear c2
                try clear p2
                try clear c3
                try clear c4
                try clear c9
                try clear c9b0
                try clear c10
                try clear c11
                try clear c12
                try clear c16
                try clear c19
                try clear c20
                try clear c27
                try clear c30
                try clear c31
                try clear c36
                try clear c37
                try clear c38
                try clear c41
                try clear c42
                try clear hcz13_0
                try clear hcz13_1
                try clear hcz21_0
                try clear hcz21_1
                try clear hcz25_0
                try clear hcz25_1
                try clear hcz32_0
                try clear hcz32_1
                try clear hcz39_0
                try clear hcz39_1
                try clear hcz43_0
                try clear hcz43_1
                try clear hfz13_0
                try clear hfz13_1
                try clear hfz21_0
                try clear hfz21_1
                try clear hfz25_0
                try clear hfz25_1
                try clear hfz32_0
                try clear hfz32_1
                try clear hfz39_0
                try clear hfz39_1
                try clear hfz43_0
                try clear hfz43_1
                try clear p2
                obtain ⟨x386000_3, x386001_3, x387001_3, x398000_3, u398000, HA, HK3, HO_398000, BK384, BK385, BK386, BK397, HB⟩ := hrel
                cases gk with
                | zero => exact absurd HA.out (by simp [hold_Recoup.l0])
                | succ k3 =>
                  have H := HA.out
                  clear HA
                  simp only [hold_Recoup.l0] at H
                  have HC46 := Aside0.mk H
                  clear H
                  go_upto_region 7 with (fail)
                  go_cut [48] (fun v48 wc => ∃ (kq : Nat) (x48_45 : Bool), v48 = .bool x48_45 ∧ Aside0 (hold_Recoup.j3 kq a2 a3 t396 x48_45 l0_0 l0_1 l0_2 a0_3 a0_4 x386000_3 x386001_3 x398000_3 0 = some (r1, r2, r3)) ∧ Aside0 (kq ≤ k3) ∧ Aside0 (Kd.R (Kd.int .i64) 2 wc w.heap.size (fun _ => True) u398000 x398000_3) ∧ Aside0 (wc.heap[gb384]? = some (.cells #[(.slice A0_0 l0_0.length c0_0), (.slice A0_1 l0_1.length c0_1), (.slice A0_2 l0_2.length c0_2), .int .i64 a0_3, .int .i64 a0_4] 55 (0, 0))) ∧ Aside0 (wc.heap[gb385]? = some (.cells #[.int .i64 x386000_3, .int .i64 x386001_3] 47 (0, 0))) ∧ Aside0 (wc.heap[gb386]? = some (.cells #[(.slice none 0 0), .int .i64 x387001_3] 84 (0, 0))) ∧ Aside0 (wc.heap[gb397]? = some (.cells #[u398000, .int .i64 0] 84 (0, 0))) ∧ Aside0 (Below w.heap.size w wc))
                  case first => as_aux_lemma =>
                    have H := HC46.out
                    clear HC46
                    by_cases c47 : (x398000_3.length : Int) < a3
                    · rw [if_pos c47] at H
                      have c47b0 : decide ((x398000_3.length : Int) < a3) = true := decide_eq_true c47
                      clear c47
                      (first | rw [c47b0] | (simp only [i64_w, i32_w]; rw [c47b0]) | skip)
                      have H' := Aside0.mk H
                      clear H
                      have hnb48 := NB397_384.out
                      have hnc48 := NB384_397.out
                      have hnb49 := NB397_385.out
                      have hnc49 := NB385_397.out
                      have hnb50 := NB397_386.out
                      have hnc50 := NB386_397.out
                      have hcz51_0 : wr.cell? ⟨gb397, 0, none⟩ = some (u398000) := (blk_cell BK397.out 0).trans rfl
                      have hcz51_1 : wr.cell? ⟨gb397, 1, none⟩ = some (.int .i64 0) := (blk_cell BK397.out 1).trans rfl
                      have hfz51_0 := blk_frozen BK397.out 0
                      have hfz51_1 := blk_frozen BK397.out 1
                      obtain ⟨Ao52, co52, eo52⟩ := Kd.R_slice HO_398000.out
                      subst eo52
                      have hnb53 := NB385_384.out
                      have hnc53 := NB384_385.out
                      have hnb54 := NB385_386.out
                      have hnc54 := NB386_385.out
                      have hcz55_0 : wr.cell? ⟨gb385, 0, none⟩ = some (.int .i64 x386000_3) := (blk_cell BK385.out 0).trans rfl
                      have hcz55_1 : wr.cell? ⟨gb385, 1, none⟩ = some (.int .i64 x386001_3) := (blk_cell BK385.out 1).trans rfl
                      have hfz55_0 := blk_frozen BK385.out 0
                      have hfz55_1 := blk_frozen BK385.out 1
                      go_wp2
                      go_meet
                      case rel => exact ⟨_, (decide (x386001_3 > 0)), (by first | rfl | (simp; done) | (simp [*]; done)), H', ⟨by have := HJ4.out; have := HJ13.out; have := HK3.out; first | omega | exact Nat.le_refl _⟩, ⟨by (with_reducible repeat (first | apply Kd.R_alloc | apply Kd.R_drewN | apply Kd.R_drew)); exact HO_398000.out⟩, ⟨by (with_reducible repeat (first | refine blk_drewN ?_ _ | refine blk_drew ?_ | refine blk_alloc ?_ _)); exact BK384.out⟩, ⟨by (with_reducible repeat (first | refine blk_drewN ?_ _ | refine blk_drew ?_ | refine blk_alloc ?_ _)); exact BK385.out⟩, ⟨by (with_reducible repeat (first | refine blk_drewN ?_ _ | refine blk_drew ?_ | refine blk_alloc ?_ _)); exact BK386.out⟩, ⟨by (with_reducible repeat (first | refine blk_drewN ?_ _ | refine blk_drew ?_ | refine blk_alloc ?_ _)); exact BK397.out⟩, ⟨by repeat (first | (with_reducible first | exact HB.out | apply below_alloc | apply pw_below_drewN | apply below_drew1 | refine below_set ?_ GE384.out | refine below_set ?_ GE385.out | refine below_set ?_ GE386.out | refine below_set ?_ GE397.out) | exact HB.out)⟩⟩
                    · rw [if_neg c47] at H
                      have c47b0 : decide ((x398000_3.length : Int) < a3) = false := decide_eq_false c47
                      clear c47
                      (first | rw [c47b0] | (simp only [i64_w, i32_w]; rw [c47b0]) | skip)
                      have H' := Aside0.mk H
                      clear H
                      have hnb56 := NB397_384.out
                      have hnc56 := NB384_397.out
                      have hnb57 := NB397_385.out
                      have hnc57 := NB385_397.out
                      have hnb58 := NB397_386.out
                      have hnc58 := NB386_397.out
                      have hcz59_0 : wr.cell? ⟨gb397, 0, none⟩ = some (u398000) := (blk_cell BK397.out 0).trans rfl
                      have hcz59_1 : wr.cell? ⟨gb397, 1, none⟩ = some (.int .i64 0) := (blk_cell BK397.out 1).trans rfl
                      have hfz59_0 := blk_frozen BK397.out 0
                      have hfz59_1 := blk_frozen BK397.out 1
                      obtain ⟨Ao60, co60, eo60⟩ := Kd.R_slice HO_398000.out
                      subst eo60
                      go_wp2
                      go_meet
                      case rel => exact ⟨_, (false), (by first | rfl | (simp; done) | (simp [*]; done)), H', ⟨by have := HJ4.out; have := HJ13.out; have := HK3.out; first | omega | exact Nat.le_refl _⟩, ⟨by (with_reducible repeat (first | apply Kd.R_alloc | apply Kd.R_drewN | apply Kd.R_drew)); exact HO_398000.out⟩, ⟨by (with_reducible repeat (first | refine blk_drewN ?_ _ | refine blk_drew ?_ | refine blk_alloc ?_ _)); exact BK384.out⟩, ⟨by (with_reducible repeat (first | refine blk_drewN ?_ _ | refine blk_drew ?_ | refine blk_alloc ?_ _)); exact BK385.out⟩, ⟨by (with_reducible repeat (first | refine blk_drewN ?_ _ | refine blk_drew ?_ | refine blk_alloc ?_ _)); exact BK386.out⟩, ⟨by (with_reducible repeat (first | refine blk_drewN ?_ _ | refine blk_drew ?_ | refine blk_alloc ?_ _)); exact BK397.out⟩, ⟨by repeat (first | (with_reducible first | exact HB.out | apply below_alloc | apply pw_below_drewN | apply below_drew1 | refine below_set ?_ GE384.out | refine below_set ?_ GE385.out | refine below_set ?_ GE386.out | refine below_set ?_ GE397.out) | exact HB.out)⟩⟩
                  case rest => as_aux_lemma =>
                    clear HC46
                    try clear c1
                    try clear c2
                    try clear p2
                    try clear c3
                    try clear c4
                    try clear c5
                    try clear c9
                    try clear c9b0
                    try clear c10
                    try clear c11
                    try clear c12
                    try clear c16
                    try clear c19
                    try clear c20
                    try clear c27
                    try clear c30
                    try clear c31
                    try clear c36
                    try clear c37
                    try clear c38
                    try clear c41
                    try clear c42
                    try clear c47
                    try clear c47b0
                    try clear c48
                    try clear c49
                    try clear c50
                    try clear c53
                    try clear c54
                    try clear c56
                    try clear c57
                    try clear c58
                    try clear hcz13_0
                    try clear hcz13_1
                    try clear hcz21_0
                    try clear hcz21_1
                    try clear hcz25_0
                    try clear hcz25_1
                    try clear hcz32_0
                    try clear hcz32_1
                    try clear hcz39_0
                    try clear hcz39_1
                    try clear hcz43_0
                    try clear hcz43_1
                    try clear hcz51_0
                    try clear hcz51_1
                    try clear hcz55_0
                    try clear hcz55_1
                    try clear hcz59_0
                    try clear hcz59_1
                    try clear hfz13_0
                    try clear hfz13_1
                    try clear hfz21_0
                    try clear hfz21_1
                    try clear hfz25_0
                    try clear hfz25_1
                    try clear hfz32_0
                    try clear hfz32_1
                    try clear hfz39_0
                    try clear hfz39_1
                    try clear hfz43_0
                    try clear hfz43_1
                    try clear hfz51_0
                    try clear hfz51_1
                    try clear hfz55_0
                    try clear hfz55_1
                    try clear hfz59_0
                    try clear hfz59_1
                    try clear p2
                    obtain ⟨kq, x48_45, rfl, HA, HJ45, HO_398000, BK384, BK385, BK386, BK397, HB⟩ := hcut
                    cases kq with
                    | zero => exact absurd HA.out (by simp [hold_Recoup.j3])
                    | succ kj45 =>
                      have H := HA.out
                      clear HA
                      simp only [hold_Recoup.j3] at H
                      by_cases c61 : x48_45 = true
                      · subst c61
                        have H1 : ((hold_Step.f kj45 l0_0 l0_1 l0_2 a0_3 a0_4 x386000_3 x386001_3 a2 t396 true).bind fun bt398 => (if bt398.2.2.2 = 0 then (if x398000_3.length < 17592186044416 then ((some (x398000_3 ++ [bt398.1] : List Int)).bind fun y403 => (if bt398.1 = 0 then (some (y403, bt398.2.2.1, 0)) else (hold_Recoup.l0 kj45 a2 a3 t396 l0_0 l0_1 l0_2 a0_3 a0_4 bt398.2.1 bt398.2.2.1 y403 0))) else (none)) else (some (([] : List Int), 0, bt398.2.2.2)))) = some (r1, r2, r3) := by rw [if_pos rfl] at H; exact H
                        clear H
                        have H := H1
                        clear H1
                        replace H := Option.bind_eq_some_iff.mp H
                        obtain ⟨⟨t398, t399, t400, t401⟩, A620, H⟩ := H
                        replace H : (if t401 = 0 then (if x398000_3.length < 17592186044416 then ((some (x398000_3 ++ [t398] : List Int)).bind fun y403 => (if t398 = 0 then (some (y403, t400, 0)) else (hold_Recoup.l0 kj45 a2 a3 t396 l0_0 l0_1 l0_2 a0_3 a0_4 t399 t400 y403 0))) else (none)) else (some (([] : List Int), 0, t401))) = some (r1, r2, r3) := H
                        have A62 := Aside0.mk A620
                        clear A620
                        by_cases c63 : t401 = 0
                        · rw [if_pos c63] at H
                          have c63b0 : (t401 == 0) = true := beq_iff_eq.mpr c63
                          have c63b1 : (t401 != 0) = false := bne_eq_false_iff_eq.mpr c63
                          clear c63
                          by_cases c64 : x398000_3.length < 17592186044416
                          · rw [if_pos c64] at H
                            have LMc64 := Aside0.mk c64
                            clear c64
                            obtain ⟨y403, hy403⟩ : ∃ y_ : List Int, y_ = (x398000_3 ++ [t398]) := ⟨_, rfl⟩
                            replace H : (if t398 = 0 then (some (y403, t400, 0)) else (hold_Recoup.l0 kj45 a2 a3 t396 l0_0 l0_1 l0_2 a0_3 a0_4 t399 t400 y403 0)) = some (r1, r2, r3) := by first | (rw [hy403]; with_reducible exact H) | (have H2_ := (Option.bind_some _ _).symm.trans H; rw [hy403]; with_reducible exact H2_) | (have H2_ := (Option.bind_some _ _).symm.trans H; with_reducible exact H2_) | with_reducible exact H | (rw [hy403]; exact H) | exact H
                            have Ny403 := Aside0.mk hy403
                            clear hy403
                            by_cases c65 : t398 = 0
                            · rw [if_pos c65] at H
                              have c65b0 : (t398 == 0) = true := beq_iff_eq.mpr c65
                              have c65b1 : (t398 != 0) = false := bne_eq_false_iff_eq.mpr c65
                              clear c65
                              simp only [Option.some.injEq, Prod.mk.injEq] at H
                              obtain ⟨rfl, rfl, rfl⟩ := H
                              have hnb66 := NB384_385.out
                              have hnc66 := NB385_384.out
                              have hnb67 := NB384_386.out
                              have hnc67 := NB386_384.out
                              have hnb68 := NB384_397.out
                              have hnc68 := NB397_384.out
                              have hcz69_0 : wc.cell? ⟨gb384, 0, none⟩ = some (.slice A0_0 l0_0.length c0_0) := (blk_cell BK384.out 0).trans rfl
                              have hcz69_1 : wc.cell? ⟨gb384, 1, none⟩ = some (.slice A0_1 l0_1.length c0_1) := (blk_cell BK384.out 1).trans rfl
                              have hcz69_2 : wc.cell? ⟨gb384, 2, none⟩ = some (.slice A0_2 l0_2.length c0_2) := (blk_cell BK384.out 2).trans rfl
                              have hcz69_3 : wc.cell? ⟨gb384, 3, none⟩ = some (.int .i64 a0_3) := (blk_cell BK384.out 3).trans rfl
                              have hcz69_4 : wc.cell? ⟨gb384, 4, none⟩ = some (.int .i64 a0_4) := (blk_cell BK384.out 4).trans rfl
                              have hfz69_0 := blk_frozen BK384.out 0
                              have hfz69_1 := blk_frozen BK384.out 1
                              have hfz69_2 := blk_frozen BK384.out 2
                              have hfz69_3 := blk_frozen BK384.out 3
                              have hfz69_4 := blk_frozen BK384.out 4
                              have hnb70 := NB385_386.out
                              have hnc70 := NB386_385.out
                              have hnb71 := NB385_397.out
                              have hnc71 := NB397_385.out
                              have hcz72_0 : wc.cell? ⟨gb385, 0, none⟩ = some (.int .i64 x386000_3) := (blk_cell BK385.out 0).trans rfl
                              have hcz72_1 : wc.cell? ⟨gb385, 1, none⟩ = some (.int .i64 x386001_3) := (blk_cell BK385.out 1).trans rfl
                              have hfz72_0 := blk_frozen BK385.out 0
                              have hfz72_1 := blk_frozen BK385.out 1
                              try go_wp2_with (first | ((with_reducible refine gate_callee (f := 25) rfl ?_); refine goesL_ (some 54) rfl rfl Try.func25 (by kernel_rfl) rfl #[.agg #[.slice A0_0 l0_0.length c0_0, .slice A0_1 l0_1.length c0_1, .slice A0_2 l0_2.length c0_2, .int .i64 a0_3, .int .i64 a0_4], .agg #[.int .i64 x386000_3, .int .i64 x386001_3], .int .i64 a2, .int .i64 t396, .bool true] rfl (by (try simp only [List.map_toArray, List.map_cons, List.map_nil]); first | done | rfl | (simp only [List.length_drop, List.length_take]; rfl)) ?_; (with_reducible refine (hold_Step.calls kj45 _ _ l0_0 _ _ l0_1 _ _ l0_2 a0_3 a0_4 x386000_3 x386001_3 a2 t396 true t398 t399 t400 t401 _ ?side1 ?side2 ?side3 ?side4 ?side5 ?side6 A62.out).mono ?_); (case side1 => repeat (first | exact (Kd.C_below HR0_0.out HB.out) | (with_reducible refine Kd.C_alloc ?_ _) | (with_reducible refine Kd.C_drewN ?_ _) | (with_reducible refine Kd.C_drew ?_))); (case side2 => exact HC0_0.out); (case side3 => repeat (first | exact (Kd.C_below HR0_1.out HB.out) | (with_reducible refine Kd.C_alloc ?_ _) | (with_reducible refine Kd.C_drewN ?_ _) | (with_reducible refine Kd.C_drew ?_))); (case side4 => exact HC0_1.out); (case side5 => repeat (first | exact (Kd.C_below HR0_2.out HB.out) | (with_reducible refine Kd.C_alloc ?_ _) | (with_reducible refine Kd.C_drewN ?_ _) | (with_reducible refine Kd.C_drew ?_))); (case side6 => exact HC0_2.out); rintro e w73 ⟨rfl, hb⟩; refine ⟨_, rfl, ?_⟩; have n0_ := Aside0.mk (Kd.R_below (by (with_reducible repeat (first | apply Kd.R_alloc | apply Kd.R_drewN | apply Kd.R_drew)); exact HO_398000.out) hb); have n1_ := Aside0.mk (blk_below (g := gb384) (o := .cells #[.slice A0_0 l0_0.length c0_0, .slice A0_1 l0_1.length c0_1, .slice A0_2 l0_2.length c0_2, .int .i64 a0_3, .int .i64 a0_4] 55 (0, 0)) (by (with_reducible repeat (first | refine blk_drewN ?_ _ | refine blk_drew ?_ | refine blk_alloc ?_ _)); exact BK384.out) hb); have n2_ := Aside0.mk (blk_below (g := gb385) (o := .cells #[.int .i64 x386000_3, .int .i64 x386001_3] 47 (0, 0)) (by (with_reducible repeat (first | refine blk_drewN ?_ _ | refine blk_drew ?_ | refine blk_alloc ?_ _)); exact BK385.out) hb); have n3_ := Aside0.mk (blk_below (g := gb386) (o := .cells #[.slice none 0 0, .int .i64 x387001_3] 84 (0, 0)) (by (with_reducible repeat (first | refine blk_drewN ?_ _ | refine blk_drew ?_ | refine blk_alloc ?_ _)); exact BK386.out) hb); have n4_ := Aside0.mk (blk_below (g := gb397) (o := .cells #[u398000, .int .i64 0] 84 (0, 0)) (by (with_reducible repeat (first | refine blk_drewN ?_ _ | refine blk_drew ?_ | refine blk_alloc ?_ _)); exact BK397.out) hb); have n5_ := Aside0.mk (below_step (by repeat (first | (with_reducible first | exact HB.out | apply below_alloc | apply pw_below_drewN | apply below_drew1 | refine below_set ?_ GE384.out | refine below_set ?_ GE385.out | refine below_set ?_ GE386.out | refine below_set ?_ GE397.out) | exact HB.out)) hb); clear HO_398000; clear BK384; clear BK385; clear BK386; clear BK397; clear HB; have HO_398000 := n0_; have BK384 := n1_; have BK385 := n2_; have BK386 := n3_; have BK397 := n4_; have HB := n5_; clear n0_ n1_ n2_ n3_ n4_ n5_; (try clear hb); (try clear hb2); (try clear hk); (try clear hi)) | ((with_reducible refine gate_dst (N := 13) rfl ?_); refine box_event ?hg (N := 13) ?hd (cs := #[.int .i64 0, .int .i64 0]) (t := 47) ?hr ?_; (case hd => rfl); (case hg => rfl); (case hr => first | (go_simp; done) | (go_simp; rfl)); intro gb402 hg w74 hbox hb; have n0_ := Aside0.mk (Kd.R_below (by (with_reducible repeat (first | apply Kd.R_alloc | apply Kd.R_drewN | apply Kd.R_drew)); exact HO_398000.out) hb); have n1_ := Aside0.mk (blk_below (g := gb384) (o := .cells #[.slice A0_0 l0_0.length c0_0, .slice A0_1 l0_1.length c0_1, .slice A0_2 l0_2.length c0_2, .int .i64 a0_3, .int .i64 a0_4] 55 (0, 0)) (by (with_reducible repeat (first | refine blk_drewN ?_ _ | refine blk_drew ?_ | refine blk_alloc ?_ _)); exact BK384.out) hb); have n2_ := Aside0.mk (blk_below (g := gb385) (o := .cells #[.int .i64 x386000_3, .int .i64 x386001_3] 47 (0, 0)) (by (with_reducible repeat (first | refine blk_drewN ?_ _ | refine blk_drew ?_ | refine blk_alloc ?_ _)); exact BK385.out) hb); have n3_ := Aside0.mk (blk_below (g := gb386) (o := .cells #[.slice none 0 0, .int .i64 x387001_3] 84 (0, 0)) (by (with_reducible repeat (first | refine blk_drewN ?_ _ | refine blk_drew ?_ | refine blk_alloc ?_ _)); exact BK386.out) hb); have n4_ := Aside0.mk (blk_below (g := gb397) (o := .cells #[u398000, .int .i64 0] 84 (0, 0)) (by (with_reducible repeat (first | refine blk_drewN ?_ _ | refine blk_drew ?_ | refine blk_alloc ?_ _)); exact BK397.out) hb); have n5_ := Aside0.mk (below_step (by repeat (first | (with_reducible first | exact HB.out | apply below_alloc | apply pw_below_drewN | apply below_drew1 | refine below_set ?_ GE384.out | refine below_set ?_ GE385.out | refine below_set ?_ GE386.out | refine below_set ?_ GE397.out) | exact HB.out)) hb); have n6_ := Aside0.mk (hbox); have n7_ := Aside0.mk ((by rw [hg]; exact (below_size (by repeat (first | (with_reducible first | exact HB.out | apply below_alloc | apply pw_below_drewN | apply below_drew1 | refine below_set ?_ GE384.out | refine below_set ?_ GE385.out | refine below_set ?_ GE386.out | refine below_set ?_ GE397.out) | exact HB.out))) : w.heap.size ≤ gb402)); have n8_ := Aside0.mk ((by rw [hg]; exact (below_size (by repeat (first | (with_reducible first | exact HB.out | apply below_alloc | apply pw_below_drewN | apply below_drew1 | refine below_set ?_ GE384.out | refine below_set ?_ GE385.out | refine below_set ?_ GE386.out | refine below_set ?_ GE397.out) | exact HB.out))) : w.heap.size ≤ gb402)); have n9_ := Aside0.mk ((by rw [hg]; exact Nat.ne_of_lt (blk_lt (g := gb384) (o := .cells #[.slice A0_0 l0_0.length c0_0, .slice A0_1 l0_1.length c0_1, .slice A0_2 l0_2.length c0_2, .int .i64 a0_3, .int .i64 a0_4] 55 (0, 0)) (by (with_reducible repeat (first | refine blk_drewN ?_ _ | refine blk_drew ?_ | refine blk_alloc ?_ _)); exact BK384.out)) : gb384 ≠ gb402)); have n10_ := Aside0.mk ((by rw [hg]; exact Nat.ne_of_gt (blk_lt (g := gb384) (o := .cells #[.slice A0_0 l0_0.length c0_0, .slice A0_1 l0_1.length c0_1, .slice A0_2 l0_2.length c0_2, .int .i64 a0_3, .int .i64 a0_4] 55 (0, 0)) (by (with_reducible repeat (first | refine blk_drewN ?_ _ | refine blk_drew ?_ | refine blk_alloc ?_ _)); exact BK384.out)) : gb402 ≠ gb384)); have n11_ := Aside0.mk ((by rw [hg]; exact Nat.ne_of_lt (blk_lt (g := gb385) (o := .cells #[.int .i64 x386000_3, .int .i64 x386001_3] 47 (0, 0)) (by (with_reducible repeat (first | refine blk_drewN ?_ _ | refine blk_drew ?_ | refine blk_alloc ?_ _)); exact BK385.out)) : gb385 ≠ gb402)); have n12_ := Aside0.mk ((by rw [hg]; exact Nat.ne_of_gt (blk_lt (g := gb385) (o := .cells #[.int .i64 x386000_3, .int .i64 x386001_3] 47 (0, 0)) (by (with_reducible repeat (first | refine blk_drewN ?_ _ | refine blk_drew ?_ | refine blk_alloc ?_ _)); exact BK385.out)) : gb402 ≠ gb385)); have n13_ := Aside0.mk ((by rw [hg]; exact Nat.ne_of_lt (blk_lt (g := gb386) (o := .cells #[.slice none 0 0, .int .i64 x387001_3] 84 (0, 0)) (by (with_reducible repeat (first | refine blk_drewN ?_ _ | refine blk_drew ?_ | refine blk_alloc ?_ _)); exact BK386.out)) : gb386 ≠ gb402)); have n14_ := Aside0.mk ((by rw [hg]; exact Nat.ne_of_gt (blk_lt (g := gb386) (o := .cells #[.slice none 0 0, .int .i64 x387001_3] 84 (0, 0)) (by (with_reducible repeat (first | refine blk_drewN ?_ _ | refine blk_drew ?_ | refine blk_alloc ?_ _)); exact BK386.out)) : gb402 ≠ gb386)); have n15_ := Aside0.mk ((by rw [hg]; exact Nat.ne_of_lt (blk_lt (g := gb397) (o := .cells #[u398000, .int .i64 0] 84 (0, 0)) (by (with_reducible repeat (first | refine blk_drewN ?_ _ | refine blk_drew ?_ | refine blk_alloc ?_ _)); exact BK397.out)) : gb397 ≠ gb402)); have n16_ := Aside0.mk ((by rw [hg]; exact Nat.ne_of_gt (blk_lt (g := gb397) (o := .cells #[u398000, .int .i64 0] 84 (0, 0)) (by (with_reducible repeat (first | refine blk_drewN ?_ _ | refine blk_drew ?_ | refine blk_alloc ?_ _)); exact BK397.out)) : gb402 ≠ gb397)); clear HO_398000; clear BK384; clear BK385; clear BK386; clear BK397; clear HB; have HO_398000 := n0_; have BK384 := n1_; have BK385 := n2_; have BK386 := n3_; have BK397 := n4_; have HB := n5_; have BK402 := n6_; have GW402 := n7_; have GE402 := n8_; have NB384_402 := n9_; have NB402_384 := n10_; have NB385_402 := n11_; have NB402_385 := n12_; have NB386_402 := n13_; have NB402_386 := n14_; have NB397_402 := n15_; have NB402_397 := n16_; clear n0_ n1_ n2_ n3_ n4_ n5_ n6_ n7_ n8_ n9_ n10_ n11_ n12_ n13_ n14_ n15_ n16_; clear hb hbox hg; have hnb75 := NB402_384.out; have hnc75 := NB384_402.out; have hnb76 := NB402_385.out; have hnc76 := NB385_402.out; have hnb77 := NB402_386.out; have hnc77 := NB386_402.out; have hnb78 := NB402_397.out; have hnc78 := NB397_402.out; have hcz79_0 : w74.cell? ⟨gb402, 0, none⟩ = some (.int .i64 0) := (blk_cell BK402.out 0).trans rfl; have hcz79_1 : w74.cell? ⟨gb402, 1, none⟩ = some (.int .i64 0) := (blk_cell BK402.out 1).trans rfl; have hfz79_0 := blk_frozen BK402.out 0; have hfz79_1 := blk_frozen BK402.out 1))
                              have n0_ : Aside0 (Kd.R (Kd.int .i64) 2 ((w74.setCell ⟨gb402, 0, none⟩ (.int .i64 t399)).setCell ⟨gb402, 1, none⟩ (.int .i64 t400)) w.heap.size (fun _ => True) u398000 x398000_3) := ⟨by (with_reducible repeat (first | apply Kd.R_alloc | apply Kd.R_drewN | apply Kd.R_drew)); exact Kd.R_mono (Kd.R_far (p := ⟨gb402, 1, none⟩) (Kd.R_far (p := ⟨gb402, 0, none⟩) (Kd.R_types HO_398000.out BK402.out (by decide)) (fun _ hk => hk.2) (.int .i64 t399)) (fun _ hk => hk.2) (.int .i64 t400)) (fun _ hk => trivial)⟩
                              have n1_ : Aside0 (((w74.setCell ⟨gb402, 0, none⟩ (.int .i64 t399)).setCell ⟨gb402, 1, none⟩ (.int .i64 t400)).heap[gb384]? = some (.cells #[.slice A0_0 l0_0.length c0_0, .slice A0_1 l0_1.length c0_1, .slice A0_2 l0_2.length c0_2, .int .i64 a0_3, .int .i64 a0_4] 55 (0, 0))) := ⟨by (with_reducible repeat (first | refine blk_drewN ?_ _ | refine blk_drew ?_ | refine blk_alloc ?_ _)); refine blk_far ?_ NB384_402.out _; (with_reducible repeat (first | refine blk_drewN ?_ _ | refine blk_drew ?_ | refine blk_alloc ?_ _)); refine blk_far ?_ NB384_402.out _; (with_reducible repeat (first | refine blk_drewN ?_ _ | refine blk_drew ?_ | refine blk_alloc ?_ _)); exact BK384.out⟩
                              have n2_ : Aside0 (((w74.setCell ⟨gb402, 0, none⟩ (.int .i64 t399)).setCell ⟨gb402, 1, none⟩ (.int .i64 t400)).heap[gb385]? = some (.cells #[.int .i64 x386000_3, .int .i64 x386001_3] 47 (0, 0))) := ⟨by (with_reducible repeat (first | refine blk_drewN ?_ _ | refine blk_drew ?_ | refine blk_alloc ?_ _)); refine blk_far ?_ NB385_402.out _; (with_reducible repeat (first | refine blk_drewN ?_ _ | refine blk_drew ?_ | refine blk_alloc ?_ _)); refine blk_far ?_ NB385_402.out _; (with_reducible repeat (first | refine blk_drewN ?_ _ | refine blk_drew ?_ | refine blk_alloc ?_ _)); exact BK385.out⟩
                              have n3_ : Aside0 (((w74.setCell ⟨gb402, 0, none⟩ (.int .i64 t399)).setCell ⟨gb402, 1, none⟩ (.int .i64 t400)).heap[gb386]? = some (.cells #[.slice none 0 0, .int .i64 x387001_3] 84 (0, 0))) := ⟨by (with_reducible repeat (first | refine blk_drewN ?_ _ | refine blk_drew ?_ | refine blk_alloc ?_ _)); refine blk_far ?_ NB386_402.out _; (with_reducible repeat (first | refine blk_drewN ?_ _ | refine blk_drew ?_ | refine blk_alloc ?_ _)); refine blk_far ?_ NB386_402.out _; (with_reducible repeat (first | refine blk_drewN ?_ _ | refine blk_drew ?_ | refine blk_alloc ?_ _)); exact BK386.out⟩
                              have n4_ : Aside0 (((w74.setCell ⟨gb402, 0, none⟩ (.int .i64 t399)).setCell ⟨gb402, 1, none⟩ (.int .i64 t400)).heap[gb397]? = some (.cells #[u398000, .int .i64 0] 84 (0, 0))) := ⟨by (with_reducible repeat (first | refine blk_drewN ?_ _ | refine blk_drew ?_ | refine blk_alloc ?_ _)); refine blk_far ?_ NB397_402.out _; (with_reducible repeat (first | refine blk_drewN ?_ _ | refine blk_drew ?_ | refine blk_alloc ?_ _)); refine blk_far ?_ NB397_402.out _; (with_reducible repeat (first | refine blk_drewN ?_ _ | refine blk_drew ?_ | refine blk_alloc ?_ _)); exact BK397.out⟩
                              have n5_ : Aside0 (((w74.setCell ⟨gb402, 0, none⟩ (.int .i64 t399)).setCell ⟨gb402, 1, none⟩ (.int .i64 t400)).heap[gb402]? = some (.cells #[.int .i64 t399, .int .i64 t400] 47 (0, 0))) := ⟨by (with_reducible repeat (first | refine blk_drewN ?_ _ | refine blk_drew ?_ | refine blk_alloc ?_ _)); refine blk_put (cs := #[.int .i64 t399, .int .i64 0]) ?_ 1 _ rfl; (with_reducible repeat (first | refine blk_drewN ?_ _ | refine blk_drew ?_ | refine blk_alloc ?_ _)); refine blk_put (cs := #[.int .i64 0, .int .i64 0]) ?_ 0 _ rfl; (with_reducible repeat (first | refine blk_drewN ?_ _ | refine blk_drew ?_ | refine blk_alloc ?_ _)); exact BK402.out⟩
                              have n6_ : Aside0 (Below w.heap.size w ((w74.setCell ⟨gb402, 0, none⟩ (.int .i64 t399)).setCell ⟨gb402, 1, none⟩ (.int .i64 t400))) := ⟨by repeat (first | (with_reducible first | exact HB.out | apply below_alloc | apply pw_below_drewN | apply below_drew1 | refine below_set ?_ GE384.out | refine below_set ?_ GE385.out | refine below_set ?_ GE386.out | refine below_set ?_ GE397.out | refine below_set ?_ GE402.out) | exact HB.out)⟩
                              (try clear HO_398000)
                              (try clear BK384)
                              (try clear BK385)
                              (try clear BK386)
                              (try clear BK397)
                              (try clear BK402)
                              (try clear HB)
                              generalize ((w74.setCell ⟨gb402, 0, none⟩ (.int .i64 t399)).setCell ⟨gb402, 1, none⟩ (.int .i64 t400)) = w80 at n0_ n1_ n2_ n3_ n4_ n5_ n6_ ⊢
                              have HO_398000 := n0_
                              have BK384 := n1_
                              have BK385 := n2_
                              have BK386 := n3_
                              have BK397 := n4_
                              have BK402 := n5_
                              have HB := n6_
                              clear n0_ n1_ n2_ n3_ n4_ n5_ n6_
                              have n0_ := Aside0.mk (Kd.R_drew HO_398000.out)
                              have n1_ := Aside0.mk (blk_drew BK384.out)
                              have n2_ := Aside0.mk (blk_drew BK385.out)
                              have n3_ := Aside0.mk (blk_drew BK386.out)
                              have n4_ := Aside0.mk (blk_drew BK397.out)
                              have n5_ := Aside0.mk (blk_drew BK402.out)
                              have n6_ := Aside0.mk (below_drew1 HB.out)
                              clear HO_398000
                              clear BK384
                              clear BK385
                              clear BK386
                              clear BK397
                              clear BK402
                              clear HB
                              have HO_398000 := n0_
                              have BK384 := n1_
                              have BK385 := n2_
                              have BK386 := n3_
                              have BK397 := n4_
                              have BK402 := n5_
                              have HB := n6_
                              clear n0_ n1_ n2_ n3_ n4_ n5_ n6_
                              refine start_ (n := 9) (S := fun w' => w'.cell? ⟨gb402, 0, none⟩ = some (.int .i64 t399) ∧ w'.cell? ⟨gb402, 1, none⟩ = some (.int .i64 t400)) (ds := []) #[false, false, false, false, false, false, false, false, false] (by kernel_rfl) rfl rfl ⟨(blk_cell BK402.out 0).trans rfl, (blk_cell BK402.out 1).trans rfl⟩ (fun hHeld => ?_); refine with_tabW hold_Recoup.tab11 hold_Recoup.bits11 (fun HT_ HW_ => ?_)
                              generalize w80.drew = w81 at HO_398000 BK384 BK385 BK386 BK397 BK402 HB hHeld ⊢
                              refine pure_ (i := 0) (N := some 62) (v := ?_) (a' := ?_) #[true, false, false, false, false, false, false, false, false] rfl rfl (any_of HT_.out (by kernel_rfl)) (fun _ _ _ h => h) (Or.inl ⟨by rfl, ?_⟩) ?_ ?_
                              rotate_left
                              · intro w'
                                go_simp
                                with_reducible rfl
                              rotate_left
                              · simp only [Act.put, List.setIfInBounds_toArray, List.set_cons_zero, List.set_cons_succ, i64_w, i32_w]
                                rfl
                              refine pure_ (i := 2) (N := some 64) (v := ?_) (a' := ?_) #[true, false, true, false, false, false, false, false, false] rfl rfl (any_of HT_.out (by kernel_rfl)) (fun _ _ _ h => h) (Or.inl ⟨by rfl, ?_⟩) ?_ ?_
                              rotate_left
                              · intro w'
                                go_simp
                                with_reducible rfl
                              rotate_left
                              · simp only [Act.put, List.setIfInBounds_toArray, List.set_cons_zero, List.set_cons_succ, i64_w, i32_w]
                                rfl
                              refine take_ (i := 5) (N := some 67) (v := ?_) (a' := ?_) #[true, false, true, false, false, true, false, false, false] rfl rfl (take_ofW HT_.out HW_.out (by kernel_rfl)) (fun _ _ _ h => h) (Or.inl ⟨by rfl, ?_⟩) hHeld ?_ ?_
                              rotate_left
                              · rintro w' ⟨s0, s1⟩
                                go_simp
                                with_reducible rfl
                              rotate_left
                              · simp only [Act.put, List.setIfInBounds_toArray, List.set_cons_zero, List.set_cons_succ, i64_w, i32_w]
                                rfl
                              refine share_ (G := ?G699) ?h699 ?g699
                              case h699 =>
                                intro key
                                refine two_ (i := 1) (j := 3) (Ni := some 63) (Nj := some 65) #[true, true, true, false, false, true, false, false, false] #[true, false, true, true, false, true, false, false, false] rfl rfl rfl rfl (two_of HT_.out (by kernel_rfl)) (by decide) (by decide) (fun K hK => ?_) (fun K hK => ?_)
                                · have hz : w81.cell? ⟨gb397, 0, none⟩ = some (u398000) := (blk_cell BK397.out 0).trans rfl
                                  refine value_ (w1 := ?_) (v := ?_) (by rfl) rfl ?_ ?_
                                  rotate_left 2
                                  · go_simp
                                    constructor
                                    · rfl
                                    · rfl
                                  refine hK.out _ _ ⟨(blk_cell BK402.out 0).trans rfl, (blk_cell BK402.out 1).trans rfl⟩ (fun hHeld => ?_)
                                  clear hK K
                                  refine norm_ (a' := ?_) ?_ ?_
                                  rotate_left
                                  · show Act.put _ (some 63) _ = _
                                    simp only [Act.put, List.setIfInBounds_toArray, List.set_cons_zero, List.set_cons_succ, i64_w, i32_w]
                                    rfl
                                  refine one_ (i := 3) (N := some 65) #[true, true, true, true, false, true, false, false, false] rfl rfl (one_of HT_.out (by kernel_rfl)) (by decide) (fun K hK => ?_)
                                  refine value_ (w1 := ?_) (v := ?_) (by rfl) rfl ?_ ?_
                                  rotate_left 2
                                  · go_simp
                                    constructor
                                    · rfl
                                    · rfl
                                  refine hK.out _ _ ⟨(blk_cell (blk_alloc BK402.out _) 0).trans rfl, (blk_cell (blk_alloc BK402.out _) 1).trans rfl⟩ (fun hHeld => ?_)
                                  clear hK K
                                  refine norm_ (a' := ?_) ?_ ?_
                                  rotate_left
                                  · show Act.put _ (some 65) _ = _
                                    simp only [Act.put, List.setIfInBounds_toArray, List.set_cons_zero, List.set_cons_succ, i64_w, i32_w]
                                    rfl
                                  exact key
                                · refine value_ (w1 := ?_) (v := ?_) (by rfl) rfl ?_ ?_
                                  rotate_left 2
                                  · go_simp
                                    constructor
                                    · rfl
                                    · rfl
                                  refine hK.out _ _ ⟨(blk_cell (blk_alloc BK402.out _) 0).trans rfl, (blk_cell (blk_alloc BK402.out _) 1).trans rfl⟩ (fun hHeld => ?_)
                                  clear hK K
                                  refine norm_ (a' := ?_) ?_ ?_
                                  rotate_left
                                  · show Act.put _ (some 65) _ = _
                                    simp only [Act.put, List.setIfInBounds_toArray, List.set_cons_zero, List.set_cons_succ, i64_w, i32_w]
                                    rfl
                                  refine cellAt_ (p := ⟨gb397, 0, none⟩) (u := u398000) ((blk_cell (blk_alloc BK397.out _) 0).trans rfl) (fun hz => ?_)
                                  refine one_ (i := 1) (N := some 63) #[true, true, true, true, false, true, false, false, false] rfl rfl (one_of HT_.out (by kernel_rfl)) (by decide) (fun K hK => ?_)
                                  refine value_ (w1 := ?_) (v := ?_) (by rfl) rfl ?_ ?_
                                  rotate_left 2
                                  · go_simp
                                    constructor
                                    · rfl
                                    · rfl
                                  refine hK.out _ _ ⟨(blk_cell (blk_alloc BK402.out _) 0).trans rfl, (blk_cell (blk_alloc BK402.out _) 1).trans rfl⟩ (fun hHeld => ?_)
                                  clear hK K
                                  refine norm_ (a' := ?_) ?_ ?_
                                  rotate_left
                                  · show Act.put _ (some 63) _ = _
                                    simp only [Act.put, List.setIfInBounds_toArray, List.set_cons_zero, List.set_cons_succ, i64_w, i32_w]
                                    rfl
                                  exact key
                              refine one_ (i := 4) (N := some 66) #[true, true, true, true, true, true, false, false, false] rfl rfl (one_of HT_.out (by kernel_rfl)) (by decide) (fun K hK => ?_)
                              refine Kd.R_append_step (Kd.int .i64) (w0 := w) w.heap.size (by rfl) (.tmp 63) (.tmp 65) 23 2 (.int .i64 0) 8 rfl Try.underlying23 info2 rfl (by decide) (by omega) u398000 x398000_3 t398 [.int .i64 t398] (fun _ => True) (fun _ => False) rfl rfl ?aP (fun _ hk => hk.elim) ?aF ?aO ?aB ?aS ?aL ?_
                              (case aP => exact rfl)
                              (case aB => exact (by repeat (first | (with_reducible first | exact HB.out | apply below_alloc | apply pw_below_drewN | apply below_drew1 | refine below_set ?_ GE384.out | refine below_set ?_ GE385.out | refine below_set ?_ GE386.out | refine below_set ?_ GE397.out | refine below_set ?_ GE402.out) | exact HB.out)))
                              (case aF => exact (fun _ _ => trivial))
                              (case aO => exact (by (with_reducible repeat (first | apply Kd.R_alloc | apply Kd.R_drewN | apply Kd.R_drew)); exact HO_398000.out))
                              (case aS => exact (below_size (by repeat (first | (with_reducible first | exact HB.out | apply below_alloc | apply pw_below_drewN | apply below_drew1 | refine below_set ?_ GE384.out | refine below_set ?_ GE385.out | refine below_set ?_ GE386.out | refine below_set ?_ GE397.out | refine below_set ?_ GE402.out) | exact HB.out))))
                              (case aL => have := LMc64.out; omega)
                              intro v404 w82 ho hb hg hat
                              rw [← Ny403.out] at ho
                              have n0_ := Aside0.mk (blk_grown (g := gb384) (o := .cells #[.slice A0_0 l0_0.length c0_0, .slice A0_1 l0_1.length c0_1, .slice A0_2 l0_2.length c0_2, .int .i64 a0_3, .int .i64 a0_4] 55 (0, 0)) (by (with_reducible repeat (first | refine blk_drewN ?_ _ | refine blk_drew ?_ | refine blk_alloc ?_ _)); exact BK384.out) hg (Kd.R_ne HO_398000.out BK384.out (by decide)))
                              have n1_ := Aside0.mk (blk_grown (g := gb385) (o := .cells #[.int .i64 x386000_3, .int .i64 x386001_3] 47 (0, 0)) (by (with_reducible repeat (first | refine blk_drewN ?_ _ | refine blk_drew ?_ | refine blk_alloc ?_ _)); exact BK385.out) hg (Kd.R_ne HO_398000.out BK385.out (by decide)))
                              have n2_ := Aside0.mk (blk_grown (g := gb386) (o := .cells #[.slice none 0 0, .int .i64 x387001_3] 84 (0, 0)) (by (with_reducible repeat (first | refine blk_drewN ?_ _ | refine blk_drew ?_ | refine blk_alloc ?_ _)); exact BK386.out) hg (Kd.R_ne HO_398000.out BK386.out (by decide)))
                              have n3_ := Aside0.mk (blk_grown (g := gb397) (o := .cells #[u398000, .int .i64 0] 84 (0, 0)) (by (with_reducible repeat (first | refine blk_drewN ?_ _ | refine blk_drew ?_ | refine blk_alloc ?_ _)); exact BK397.out) hg (Kd.R_ne HO_398000.out BK397.out (by decide)))
                              have n4_ := Aside0.mk (blk_grown (g := gb402) (o := .cells #[.int .i64 t399, .int .i64 t400] 47 (0, 0)) (by (with_reducible repeat (first | refine blk_drewN ?_ _ | refine blk_drew ?_ | refine blk_alloc ?_ _)); exact BK402.out) hg (Kd.R_ne HO_398000.out BK402.out (by decide)))
                              have n5_ := Aside0.mk (hb)
                              have n6_ := Aside0.mk (ho)
                              clear BK384
                              clear BK385
                              clear BK386
                              clear BK397
                              clear BK402
                              clear HB
                              clear HO_398000
                              have BK384 := n0_
                              have BK385 := n1_
                              have BK386 := n2_
                              have BK397 := n3_
                              have BK402 := n4_
                              have HB := n5_
                              have HO405 := n6_
                              clear n0_ n1_ n2_ n3_ n4_ n5_ n6_
                              clear ho hb hg hat
                              obtain ⟨Ao83, co83, eo83⟩ := Kd.R_slice HO405.out
                              (first | subst eo83 | (injection eo83 with f1_ f2_ f3_; have f4_ := f1_.symm; have f5_ := f3_.symm; clear f1_ f2_ f3_; subst f4_; subst f5_))
                              refine hK.out _ _ ⟨(blk_cell BK402.out 0).trans rfl, (blk_cell BK402.out 1).trans rfl⟩ (fun hHeld => ?_)
                              clear hK K
                              refine norm_ (a' := ?_) ?_ ?_
                              rotate_left
                              · show Act.put _ (some 66) _ = _
                                simp only [Act.put, List.setIfInBounds_toArray, List.set_cons_zero, List.set_cons_succ, i64_w, i32_w]
                                rfl
                              refine pure_ (i := 6) (N := some 68) (v := ?_) (a' := ?_) #[true, true, true, true, true, true, true, false, false] rfl rfl (any_of HT_.out (by kernel_rfl)) (fun _ _ _ h => h) (Or.inl ⟨by rfl, ?_⟩) ?_ ?_
                              rotate_left
                              · intro w'
                                go_simp
                                with_reducible rfl
                              rotate_left
                              · simp only [Act.put, List.setIfInBounds_toArray, List.set_cons_zero, List.set_cons_succ, i64_w, i32_w]
                                rfl
                              refine one_ (i := 7) (N := none) #[true, true, true, true, true, true, true, true, false] rfl rfl (one_of HT_.out (by kernel_rfl)) (by decide) (fun K hK => ?_)
                              have hs84 : w82.cell? ⟨gb397, 0, none⟩ = some (u398000) := (blk_cell BK397.out 0).trans rfl
                              have hfs84 := blk_frozen BK397.out 0
                              have hns84_0 := NB384_397.out
                              have hns84_1 := NB385_397.out
                              have hns84_2 := NB386_397.out
                              have hns84_4 := NB402_397.out
                              have hms84_0 := NB397_384.out
                              have hms84_1 := NB397_385.out
                              have hms84_2 := NB397_386.out
                              have hms84_4 := NB397_402.out
                              refine skip_ (w1 := ?_) (by rfl) rfl ?_ ?_
                              rotate_left
                              · go_simp
                                rfl
                              refine hK.out _ _ ⟨(cell_far (p := ⟨gb397, _, none⟩) NB402_397.out _).trans hHeld.1, (cell_far (p := ⟨gb397, _, none⟩) NB402_397.out _).trans hHeld.2⟩ (fun hHeld => ?_)
                              clear hK K
                              refine one_ (i := 8) (N := none) #[true, true, true, true, true, true, true, true, true] rfl rfl (one_of HT_.out (by kernel_rfl)) (by decide) (fun K hK => ?_)
                              have hs85 : w82.cell? ⟨gb385, 0, none⟩ = some (.int .i64 x386000_3) := (blk_cell BK385.out 0).trans rfl
                              have hfs85 := blk_frozen BK385.out 0
                              have hns85_0 := NB384_385.out
                              have hns85_2 := NB386_385.out
                              have hns85_3 := NB397_385.out
                              have hns85_4 := NB402_385.out
                              have hms85_0 := NB385_384.out
                              have hms85_2 := NB385_386.out
                              have hms85_3 := NB385_397.out
                              have hms85_4 := NB385_402.out
                              have hs86 : w82.cell? ⟨gb385, 1, none⟩ = some (.int .i64 x386001_3) := (blk_cell BK385.out 1).trans rfl
                              have hfs86 := blk_frozen BK385.out 1
                              have hns86_0 := NB384_385.out
                              have hns86_2 := NB386_385.out
                              have hns86_3 := NB397_385.out
                              have hns86_4 := NB402_385.out
                              have hms86_0 := NB385_384.out
                              have hms86_2 := NB385_386.out
                              have hms86_3 := NB385_397.out
                              have hms86_4 := NB385_402.out
                              refine skip_ (w1 := ?_) (by rfl) rfl ?_ ?_
                              rotate_left
                              · go_simp
                                rfl
                              refine hK.out _ _ ⟨(cell_far (p := ⟨gb385, _, none⟩) NB402_385.out _).trans ((cell_far (p := ⟨gb385, _, none⟩) NB402_385.out _).trans hHeld.1), (cell_far (p := ⟨gb385, _, none⟩) NB402_385.out _).trans ((cell_far (p := ⟨gb385, _, none⟩) NB402_385.out _).trans hHeld.2)⟩ (fun hHeld => ?_)
                              clear hK K
                              refine done_ (done_of HT_.out (by kernel_rfl)) ?_
                              have hcz87_0 : w82.cell? ⟨gb385, 0, none⟩ = some (.int .i64 x386000_3) := (blk_cell BK385.out 0).trans rfl
                              have hcz87_1 : w82.cell? ⟨gb385, 1, none⟩ = some (.int .i64 x386001_3) := (blk_cell BK385.out 1).trans rfl
                              have hfz87_0 := blk_frozen BK385.out 0
                              have hfz87_1 := blk_frozen BK385.out 1
                              have hnb88 := NB397_386.out
                              have hnc88 := NB386_397.out
                              have hcz89_0 : w82.cell? ⟨gb397, 0, none⟩ = some (u398000) := (blk_cell BK397.out 0).trans rfl
                              have hcz89_1 : w82.cell? ⟨gb397, 1, none⟩ = some (.int .i64 0) := (blk_cell BK397.out 1).trans rfl
                              have hfz89_0 := blk_frozen BK397.out 0
                              have hfz89_1 := blk_frozen BK397.out 1
                              have hcz90_0 : w82.cell? ⟨gb386, 0, none⟩ = some (.slice none 0 0) := (blk_cell BK386.out 0).trans rfl
                              have hcz90_1 : w82.cell? ⟨gb386, 1, none⟩ = some (.int .i64 x387001_3) := (blk_cell BK386.out 1).trans rfl
                              have hfz90_0 := blk_frozen BK386.out 0
                              have hfz90_1 := blk_frozen BK386.out 1
                              try go_wp2
                              refine bodyPost_ret (results_ct rfl _ _ gb386 84 #[.slice Ao83 y403.length co83, .int .i64 t400] (0, 0) _ rfl (by (with_reducible repeat (first | refine blk_drewN ?_ _ | refine blk_drew ?_ | refine blk_alloc ?_ _)); refine blk_put (cs := #[.slice Ao83 y403.length co83, .int .i64 x387001_3]) ?_ 1 _ rfl; (with_reducible repeat (first | refine blk_drewN ?_ _ | refine blk_drew ?_ | refine blk_alloc ?_ _)); refine blk_put (cs := #[.slice none 0 0, .int .i64 x387001_3]) ?_ 0 _ rfl; (with_reducible repeat (first | refine blk_drewN ?_ _ | refine blk_drew ?_ | refine blk_alloc ?_ _)); refine blk_far ?_ NB386_397.out _; (with_reducible repeat (first | refine blk_drewN ?_ _ | refine blk_drew ?_ | refine blk_alloc ?_ _)); refine blk_far ?_ NB386_385.out _; (with_reducible repeat (first | refine blk_drewN ?_ _ | refine blk_drew ?_ | refine blk_alloc ?_ _)); refine blk_far ?_ NB386_385.out _; (with_reducible repeat (first | refine blk_drewN ?_ _ | refine blk_drew ?_ | refine blk_alloc ?_ _)); refine blk_far ?_ NB386_397.out _; (with_reducible repeat (first | refine blk_drewN ?_ _ | refine blk_drew ?_ | refine blk_alloc ?_ _)); exact BK386.out) Try.underlying84 rfl (by kernel_rfl)) rfl ?_
                              exact ⟨_, by first | rfl | (simp [errW_none, errW_some] <;> rfl) | (simp [*, errW_none, errW_some] <;> rfl), by (with_reducible repeat (first | apply Kd.R_alloc | apply Kd.R_drewN | apply Kd.R_drew)); exact Kd.R_mono (Kd.R_far (p := ⟨gb386, 1, none⟩) (Kd.R_far (p := ⟨gb386, 0, none⟩) (Kd.R_far (p := ⟨gb397, 1, none⟩) (Kd.R_far (p := ⟨gb385, 1, none⟩) (Kd.R_far (p := ⟨gb385, 0, none⟩) (Kd.R_far (p := ⟨gb397, 0, none⟩) (Kd.R_types (Kd.R_types (Kd.R_types HO405.out BK397.out (by decide)) BK385.out (by decide)) BK386.out (by decide)) (fun _ hk => hk.1.1.2) (.slice Ao83 y403.length co83)) (fun _ hk => hk.1.2) (.int .i64 t399)) (fun _ hk => hk.1.2) (.int .i64 t400)) (fun _ hk => hk.1.1.2) (.int .i64 t400)) (fun _ hk => hk.2) (.slice Ao83 y403.length co83)) (fun _ hk => hk.2) (.int .i64 t400)) (fun _ hk => trivial), by repeat (first | (with_reducible first | exact HB.out | apply below_alloc | apply pw_below_drewN | apply below_drew1 | refine below_set ?_ GE384.out | refine below_set ?_ GE385.out | refine below_set ?_ GE386.out | refine below_set ?_ GE397.out | refine below_set ?_ GE402.out) | exact HB.out)⟩
                            · rw [if_neg c65] at H
                              have c65b0 : (t398 == 0) = false := beq_eq_false_iff_ne.mpr c65
                              have c65b1 : (t398 != 0) = true := bne_iff_ne.mpr c65
                              have H' := Aside0.mk H
                              clear H
                              have hnb91 := NB384_385.out
                              have hnc91 := NB385_384.out
                              have hnb92 := NB384_386.out
                              have hnc92 := NB386_384.out
                              have hnb93 := NB384_397.out
                              have hnc93 := NB397_384.out
                              have hcz94_0 : wc.cell? ⟨gb384, 0, none⟩ = some (.slice A0_0 l0_0.length c0_0) := (blk_cell BK384.out 0).trans rfl
                              have hcz94_1 : wc.cell? ⟨gb384, 1, none⟩ = some (.slice A0_1 l0_1.length c0_1) := (blk_cell BK384.out 1).trans rfl
                              have hcz94_2 : wc.cell? ⟨gb384, 2, none⟩ = some (.slice A0_2 l0_2.length c0_2) := (blk_cell BK384.out 2).trans rfl
                              have hcz94_3 : wc.cell? ⟨gb384, 3, none⟩ = some (.int .i64 a0_3) := (blk_cell BK384.out 3).trans rfl
                              have hcz94_4 : wc.cell? ⟨gb384, 4, none⟩ = some (.int .i64 a0_4) := (blk_cell BK384.out 4).trans rfl
                              have hfz94_0 := blk_frozen BK384.out 0
                              have hfz94_1 := blk_frozen BK384.out 1
                              have hfz94_2 := blk_frozen BK384.out 2
                              have hfz94_3 := blk_frozen BK384.out 3
                              have hfz94_4 := blk_frozen BK384.out 4
                              have hnb95 := NB385_386.out
                              have hnc95 := NB386_385.out
                              have hnb96 := NB385_397.out
                              have hnc96 := NB397_385.out
                              have hcz97_0 : wc.cell? ⟨gb385, 0, none⟩ = some (.int .i64 x386000_3) := (blk_cell BK385.out 0).trans rfl
                              have hcz97_1 : wc.cell? ⟨gb385, 1, none⟩ = some (.int .i64 x386001_3) := (blk_cell BK385.out 1).trans rfl
                              have hfz97_0 := blk_frozen BK385.out 0
                              have hfz97_1 := blk_frozen BK385.out 1
                              try go_wp2_with (first | ((with_reducible refine gate_callee (f := 25) rfl ?_); refine goesL_ (some 54) rfl rfl Try.func25 (by kernel_rfl) rfl #[.agg #[.slice A0_0 l0_0.length c0_0, .slice A0_1 l0_1.length c0_1, .slice A0_2 l0_2.length c0_2, .int .i64 a0_3, .int .i64 a0_4], .agg #[.int .i64 x386000_3, .int .i64 x386001_3], .int .i64 a2, .int .i64 t396, .bool true] rfl (by (try simp only [List.map_toArray, List.map_cons, List.map_nil]); first | done | rfl | (simp only [List.length_drop, List.length_take]; rfl)) ?_; (with_reducible refine (hold_Step.calls kj45 _ _ l0_0 _ _ l0_1 _ _ l0_2 a0_3 a0_4 x386000_3 x386001_3 a2 t396 true t398 t399 t400 t401 _ ?side1 ?side2 ?side3 ?side4 ?side5 ?side6 A62.out).mono ?_); (case side1 => repeat (first | exact (Kd.C_below HR0_0.out HB.out) | (with_reducible refine Kd.C_alloc ?_ _) | (with_reducible refine Kd.C_drewN ?_ _) | (with_reducible refine Kd.C_drew ?_))); (case side2 => exact HC0_0.out); (case side3 => repeat (first | exact (Kd.C_below HR0_1.out HB.out) | (with_reducible refine Kd.C_alloc ?_ _) | (with_reducible refine Kd.C_drewN ?_ _) | (with_reducible refine Kd.C_drew ?_))); (case side4 => exact HC0_1.out); (case side5 => repeat (first | exact (Kd.C_below HR0_2.out HB.out) | (with_reducible refine Kd.C_alloc ?_ _) | (with_reducible refine Kd.C_drewN ?_ _) | (with_reducible refine Kd.C_drew ?_))); (case side6 => exact HC0_2.out); rintro e w98 ⟨rfl, hb⟩; refine ⟨_, rfl, ?_⟩; have n0_ := Aside0.mk (Kd.R_below (by (with_reducible repeat (first | apply Kd.R_alloc | apply Kd.R_drewN | apply Kd.R_drew)); exact HO_398000.out) hb); have n1_ := Aside0.mk (blk_below (g := gb384) (o := .cells #[.slice A0_0 l0_0.length c0_0, .slice A0_1 l0_1.length c0_1, .slice A0_2 l0_2.length c0_2, .int .i64 a0_3, .int .i64 a0_4] 55 (0, 0)) (by (with_reducible repeat (first | refine blk_drewN ?_ _ | refine blk_drew ?_ | refine blk_alloc ?_ _)); exact BK384.out) hb); have n2_ := Aside0.mk (blk_below (g := gb385) (o := .cells #[.int .i64 x386000_3, .int .i64 x386001_3] 47 (0, 0)) (by (with_reducible repeat (first | refine blk_drewN ?_ _ | refine blk_drew ?_ | refine blk_alloc ?_ _)); exact BK385.out) hb); have n3_ := Aside0.mk (blk_below (g := gb386) (o := .cells #[.slice none 0 0, .int .i64 x387001_3] 84 (0, 0)) (by (with_reducible repeat (first | refine blk_drewN ?_ _ | refine blk_drew ?_ | refine blk_alloc ?_ _)); exact BK386.out) hb); have n4_ := Aside0.mk (blk_below (g := gb397) (o := .cells #[u398000, .int .i64 0] 84 (0, 0)) (by (with_reducible repeat (first | refine blk_drewN ?_ _ | refine blk_drew ?_ | refine blk_alloc ?_ _)); exact BK397.out) hb); have n5_ := Aside0.mk (below_step (by repeat (first | (with_reducible first | exact HB.out | apply below_alloc | apply pw_below_drewN | apply below_drew1 | refine below_set ?_ GE384.out | refine below_set ?_ GE385.out | refine below_set ?_ GE386.out | refine below_set ?_ GE397.out) | exact HB.out)) hb); clear HO_398000; clear BK384; clear BK385; clear BK386; clear BK397; clear HB; have HO_398000 := n0_; have BK384 := n1_; have BK385 := n2_; have BK386 := n3_; have BK397 := n4_; have HB := n5_; clear n0_ n1_ n2_ n3_ n4_ n5_; (try clear hb); (try clear hb2); (try clear hk); (try clear hi)) | ((with_reducible refine gate_dst (N := 13) rfl ?_); refine box_event ?hg (N := 13) ?hd (cs := #[.int .i64 0, .int .i64 0]) (t := 47) ?hr ?_; (case hd => rfl); (case hg => rfl); (case hr => first | (go_simp; done) | (go_simp; rfl)); intro gb402 hg w99 hbox hb; have n0_ := Aside0.mk (Kd.R_below (by (with_reducible repeat (first | apply Kd.R_alloc | apply Kd.R_drewN | apply Kd.R_drew)); exact HO_398000.out) hb); have n1_ := Aside0.mk (blk_below (g := gb384) (o := .cells #[.slice A0_0 l0_0.length c0_0, .slice A0_1 l0_1.length c0_1, .slice A0_2 l0_2.length c0_2, .int .i64 a0_3, .int .i64 a0_4] 55 (0, 0)) (by (with_reducible repeat (first | refine blk_drewN ?_ _ | refine blk_drew ?_ | refine blk_alloc ?_ _)); exact BK384.out) hb); have n2_ := Aside0.mk (blk_below (g := gb385) (o := .cells #[.int .i64 x386000_3, .int .i64 x386001_3] 47 (0, 0)) (by (with_reducible repeat (first | refine blk_drewN ?_ _ | refine blk_drew ?_ | refine blk_alloc ?_ _)); exact BK385.out) hb); have n3_ := Aside0.mk (blk_below (g := gb386) (o := .cells #[.slice none 0 0, .int .i64 x387001_3] 84 (0, 0)) (by (with_reducible repeat (first | refine blk_drewN ?_ _ | refine blk_drew ?_ | refine blk_alloc ?_ _)); exact BK386.out) hb); have n4_ := Aside0.mk (blk_below (g := gb397) (o := .cells #[u398000, .int .i64 0] 84 (0, 0)) (by (with_reducible repeat (first | refine blk_drewN ?_ _ | refine blk_drew ?_ | refine blk_alloc ?_ _)); exact BK397.out) hb); have n5_ := Aside0.mk (below_step (by repeat (first | (with_reducible first | exact HB.out | apply below_alloc | apply pw_below_drewN | apply below_drew1 | refine below_set ?_ GE384.out | refine below_set ?_ GE385.out | refine below_set ?_ GE386.out | refine below_set ?_ GE397.out) | exact HB.out)) hb); have n6_ := Aside0.mk (hbox); have n7_ := Aside0.mk ((by rw [hg]; exact (below_size (by repeat (first | (with_reducible first | exact HB.out | apply below_alloc | apply pw_below_drewN | apply below_drew1 | refine below_set ?_ GE384.out | refine below_set ?_ GE385.out | refine below_set ?_ GE386.out | refine below_set ?_ GE397.out) | exact HB.out))) : w.heap.size ≤ gb402)); have n8_ := Aside0.mk ((by rw [hg]; exact (below_size (by repeat (first | (with_reducible first | exact HB.out | apply below_alloc | apply pw_below_drewN | apply below_drew1 | refine below_set ?_ GE384.out | refine below_set ?_ GE385.out | refine below_set ?_ GE386.out | refine below_set ?_ GE397.out) | exact HB.out))) : w.heap.size ≤ gb402)); have n9_ := Aside0.mk ((by rw [hg]; exact Nat.ne_of_lt (blk_lt (g := gb384) (o := .cells #[.slice A0_0 l0_0.length c0_0, .slice A0_1 l0_1.length c0_1, .slice A0_2 l0_2.length c0_2, .int .i64 a0_3, .int .i64 a0_4] 55 (0, 0)) (by (with_reducible repeat (first | refine blk_drewN ?_ _ | refine blk_drew ?_ | refine blk_alloc ?_ _)); exact BK384.out)) : gb384 ≠ gb402)); have n10_ := Aside0.mk ((by rw [hg]; exact Nat.ne_of_gt (blk_lt (g := gb384) (o := .cells #[.slice A0_0 l0_0.length c0_0, .slice A0_1 l0_1.length c0_1, .slice A0_2 l0_2.length c0_2, .int .i64 a0_3, .int .i64 a0_4] 55 (0, 0)) (by (with_reducible repeat (first | refine blk_drewN ?_ _ | refine blk_drew ?_ | refine blk_alloc ?_ _)); exact BK384.out)) : gb402 ≠ gb384)); have n11_ := Aside0.mk ((by rw [hg]; exact Nat.ne_of_lt (blk_lt (g := gb385) (o := .cells #[.int .i64 x386000_3, .int .i64 x386001_3] 47 (0, 0)) (by (with_reducible repeat (first | refine blk_drewN ?_ _ | refine blk_drew ?_ | refine blk_alloc ?_ _)); exact BK385.out)) : gb385 ≠ gb402)); have n12_ := Aside0.mk ((by rw [hg]; exact Nat.ne_of_gt (blk_lt (g := gb385) (o := .cells #[.int .i64 x386000_3, .int .i64 x386001_3] 47 (0, 0)) (by (with_reducible repeat (first | refine blk_drewN ?_ _ | refine blk_drew ?_ | refine blk_alloc ?_ _)); exact BK385.out)) : gb402 ≠ gb385)); have n13_ := Aside0.mk ((by rw [hg]; exact Nat.ne_of_lt (blk_lt (g := gb386) (o := .cells #[.slice none 0 0, .int .i64 x387001_3] 84 (0, 0)) (by (with_reducible repeat (first | refine blk_drewN ?_ _ | refine blk_drew ?_ | refine blk_alloc ?_ _)); exact BK386.out)) : gb386 ≠ gb402)); have n14_ := Aside0.mk ((by rw [hg]; exact Nat.ne_of_gt (blk_lt (g := gb386) (o := .cells #[.slice none 0 0, .int .i64 x387001_3] 84 (0, 0)) (by (with_reducible repeat (first | refine blk_drewN ?_ _ | refine blk_drew ?_ | refine blk_alloc ?_ _)); exact BK386.out)) : gb402 ≠ gb386)); have n15_ := Aside0.mk ((by rw [hg]; exact Nat.ne_of_lt (blk_lt (g := gb397) (o := .cells #[u398000, .int .i64 0] 84 (0, 0)) (by (with_reducible repeat (first | refine blk_drewN ?_ _ | refine blk_drew ?_ | refine blk_alloc ?_ _)); exact BK397.out)) : gb397 ≠ gb402)); have n16_ := Aside0.mk ((by rw [hg]; exact Nat.ne_of_gt (blk_lt (g := gb397) (o := .cells #[u398000, .int .i64 0] 84 (0, 0)) (by (with_reducible repeat (first | refine blk_drewN ?_ _ | refine blk_drew ?_ | refine blk_alloc ?_ _)); exact BK397.out)) : gb402 ≠ gb397)); clear HO_398000; clear BK384; clear BK385; clear BK386; clear BK397; clear HB; have HO_398000 := n0_; have BK384 := n1_; have BK385 := n2_; have BK386 := n3_; have BK397 := n4_; have HB := n5_; have BK402 := n6_; have GW402 := n7_; have GE402 := n8_; have NB384_402 := n9_; have NB402_384 := n10_; have NB385_402 := n11_; have NB402_385 := n12_; have NB386_402 := n13_; have NB402_386 := n14_; have NB397_402 := n15_; have NB402_397 := n16_; clear n0_ n1_ n2_ n3_ n4_ n5_ n6_ n7_ n8_ n9_ n10_ n11_ n12_ n13_ n14_ n15_ n16_; clear hb hbox hg; have hnb100 := NB402_384.out; have hnc100 := NB384_402.out; have hnb101 := NB402_385.out; have hnc101 := NB385_402.out; have hnb102 := NB402_386.out; have hnc102 := NB386_402.out; have hnb103 := NB402_397.out; have hnc103 := NB397_402.out; have hcz104_0 : w99.cell? ⟨gb402, 0, none⟩ = some (.int .i64 0) := (blk_cell BK402.out 0).trans rfl; have hcz104_1 : w99.cell? ⟨gb402, 1, none⟩ = some (.int .i64 0) := (blk_cell BK402.out 1).trans rfl; have hfz104_0 := blk_frozen BK402.out 0; have hfz104_1 := blk_frozen BK402.out 1))
                              have n0_ : Aside0 (Kd.R (Kd.int .i64) 2 ((w99.setCell ⟨gb402, 0, none⟩ (.int .i64 t399)).setCell ⟨gb402, 1, none⟩ (.int .i64 t400)) w.heap.size (fun _ => True) u398000 x398000_3) := ⟨by (with_reducible repeat (first | apply Kd.R_alloc | apply Kd.R_drewN | apply Kd.R_drew)); exact Kd.R_mono (Kd.R_far (p := ⟨gb402, 1, none⟩) (Kd.R_far (p := ⟨gb402, 0, none⟩) (Kd.R_types HO_398000.out BK402.out (by decide)) (fun _ hk => hk.2) (.int .i64 t399)) (fun _ hk => hk.2) (.int .i64 t400)) (fun _ hk => trivial)⟩
                              have n1_ : Aside0 (((w99.setCell ⟨gb402, 0, none⟩ (.int .i64 t399)).setCell ⟨gb402, 1, none⟩ (.int .i64 t400)).heap[gb384]? = some (.cells #[.slice A0_0 l0_0.length c0_0, .slice A0_1 l0_1.length c0_1, .slice A0_2 l0_2.length c0_2, .int .i64 a0_3, .int .i64 a0_4] 55 (0, 0))) := ⟨by (with_reducible repeat (first | refine blk_drewN ?_ _ | refine blk_drew ?_ | refine blk_alloc ?_ _)); refine blk_far ?_ NB384_402.out _; (with_reducible repeat (first | refine blk_drewN ?_ _ | refine blk_drew ?_ | refine blk_alloc ?_ _)); refine blk_far ?_ NB384_402.out _; (with_reducible repeat (first | refine blk_drewN ?_ _ | refine blk_drew ?_ | refine blk_alloc ?_ _)); exact BK384.out⟩
                              have n2_ : Aside0 (((w99.setCell ⟨gb402, 0, none⟩ (.int .i64 t399)).setCell ⟨gb402, 1, none⟩ (.int .i64 t400)).heap[gb385]? = some (.cells #[.int .i64 x386000_3, .int .i64 x386001_3] 47 (0, 0))) := ⟨by (with_reducible repeat (first | refine blk_drewN ?_ _ | refine blk_drew ?_ | refine blk_alloc ?_ _)); refine blk_far ?_ NB385_402.out _; (with_reducible repeat (first | refine blk_drewN ?_ _ | refine blk_drew ?_ | refine blk_alloc ?_ _)); refine blk_far ?_ NB385_402.out _; (with_reducible repeat (first | refine blk_drewN ?_ _ | refine blk_drew ?_ | refine blk_alloc ?_ _)); exact BK385.out⟩
                              have n3_ : Aside0 (((w99.setCell ⟨gb402, 0, none⟩ (.int .i64 t399)).setCell ⟨gb402, 1, none⟩ (.int .i64 t400)).heap[gb386]? = some (.cells #[.slice none 0 0, .int .i64 x387001_3] 84 (0, 0))) := ⟨by (with_reducible repeat (first | refine blk_drewN ?_ _ | refine blk_drew ?_ | refine blk_alloc ?_ _)); refine blk_far ?_ NB386_402.out _; (with_reducible repeat (first | refine blk_drewN ?_ _ | refine blk_drew ?_ | refine blk_alloc ?_ _)); refine blk_far ?_ NB386_402.out _; (with_reducible repeat (first | refine blk_drewN ?_ _ | refine blk_drew ?_ | refine blk_alloc ?_ _)); exact BK386.out⟩
                              have n4_ : Aside0 (((w99.setCell ⟨gb402, 0, none⟩ (.int .i64 t399)).setCell ⟨gb402, 1, none⟩ (.int .i64 t400)).heap[gb397]? = some (.cells #[u398000, .int .i64 0] 84 (0, 0))) := ⟨by (with_reducible repeat (first | refine blk_drewN ?_ _ | refine blk_drew ?_ | refine blk_alloc ?_ _)); refine blk_far ?_ NB397_402.out _; (with_reducible repeat (first | refine blk_drewN ?_ _ | refine blk_drew ?_ | refine blk_alloc ?_ _)); refine blk_far ?_ NB397_402.out _; (with_reducible repeat (first | refine blk_drewN ?_ _ | refine blk_drew ?_ | refine blk_alloc ?_ _)); exact BK397.out⟩
                              have n5_ : Aside0 (((w99.setCell ⟨gb402, 0, none⟩ (.int .i64 t399)).setCell ⟨gb402, 1, none⟩ (.int .i64 t400)).heap[gb402]? = some (.cells #[.int .i64 t399, .int .i64 t400] 47 (0, 0))) := ⟨by (with_reducible repeat (first | refine blk_drewN ?_ _ | refine blk_drew ?_ | refine blk_alloc ?_ _)); refine blk_put (cs := #[.int .i64 t399, .int .i64 0]) ?_ 1 _ rfl; (with_reducible repeat (first | refine blk_drewN ?_ _ | refine blk_drew ?_ | refine blk_alloc ?_ _)); refine blk_put (cs := #[.int .i64 0, .int .i64 0]) ?_ 0 _ rfl; (with_reducible repeat (first | refine blk_drewN ?_ _ | refine blk_drew ?_ | refine blk_alloc ?_ _)); exact BK402.out⟩
                              have n6_ : Aside0 (Below w.heap.size w ((w99.setCell ⟨gb402, 0, none⟩ (.int .i64 t399)).setCell ⟨gb402, 1, none⟩ (.int .i64 t400))) := ⟨by repeat (first | (with_reducible first | exact HB.out | apply below_alloc | apply pw_below_drewN | apply below_drew1 | refine below_set ?_ GE384.out | refine below_set ?_ GE385.out | refine below_set ?_ GE386.out | refine below_set ?_ GE397.out | refine below_set ?_ GE402.out) | exact HB.out)⟩
                              (try clear HO_398000)
                              (try clear BK384)
                              (try clear BK385)
                              (try clear BK386)
                              (try clear BK397)
                              (try clear BK402)
                              (try clear HB)
                              generalize ((w99.setCell ⟨gb402, 0, none⟩ (.int .i64 t399)).setCell ⟨gb402, 1, none⟩ (.int .i64 t400)) = w105 at n0_ n1_ n2_ n3_ n4_ n5_ n6_ ⊢
                              have HO_398000 := n0_
                              have BK384 := n1_
                              have BK385 := n2_
                              have BK386 := n3_
                              have BK397 := n4_
                              have BK402 := n5_
                              have HB := n6_
                              clear n0_ n1_ n2_ n3_ n4_ n5_ n6_
                              have n0_ := Aside0.mk (Kd.R_drew HO_398000.out)
                              have n1_ := Aside0.mk (blk_drew BK384.out)
                              have n2_ := Aside0.mk (blk_drew BK385.out)
                              have n3_ := Aside0.mk (blk_drew BK386.out)
                              have n4_ := Aside0.mk (blk_drew BK397.out)
                              have n5_ := Aside0.mk (blk_drew BK402.out)
                              have n6_ := Aside0.mk (below_drew1 HB.out)
                              clear HO_398000
                              clear BK384
                              clear BK385
                              clear BK386
                              clear BK397
                              clear BK402
                              clear HB
                              have HO_398000 := n0_
                              have BK384 := n1_
                              have BK385 := n2_
                              have BK386 := n3_
                              have BK397 := n4_
                              have BK402 := n5_
                              have HB := n6_
                              clear n0_ n1_ n2_ n3_ n4_ n5_ n6_
                              refine start_ (n := 9) (S := fun w' => w'.cell? ⟨gb402, 0, none⟩ = some (.int .i64 t399) ∧ w'.cell? ⟨gb402, 1, none⟩ = some (.int .i64 t400)) (ds := []) #[false, false, false, false, false, false, false, false, false] (by kernel_rfl) rfl rfl ⟨(blk_cell BK402.out 0).trans rfl, (blk_cell BK402.out 1).trans rfl⟩ (fun hHeld => ?_); refine with_tabW hold_Recoup.tab11 hold_Recoup.bits11 (fun HT_ HW_ => ?_)
                              generalize w105.drew = w106 at HO_398000 BK384 BK385 BK386 BK397 BK402 HB hHeld ⊢
                              refine pure_ (i := 0) (N := some 62) (v := ?_) (a' := ?_) #[true, false, false, false, false, false, false, false, false] rfl rfl (any_of HT_.out (by kernel_rfl)) (fun _ _ _ h => h) (Or.inl ⟨by rfl, ?_⟩) ?_ ?_
                              rotate_left
                              · intro w'
                                go_simp
                                with_reducible rfl
                              rotate_left
                              · simp only [Act.put, List.setIfInBounds_toArray, List.set_cons_zero, List.set_cons_succ, i64_w, i32_w]
                                rfl
                              refine pure_ (i := 2) (N := some 64) (v := ?_) (a' := ?_) #[true, false, true, false, false, false, false, false, false] rfl rfl (any_of HT_.out (by kernel_rfl)) (fun _ _ _ h => h) (Or.inl ⟨by rfl, ?_⟩) ?_ ?_
                              rotate_left
                              · intro w'
                                go_simp
                                with_reducible rfl
                              rotate_left
                              · simp only [Act.put, List.setIfInBounds_toArray, List.set_cons_zero, List.set_cons_succ, i64_w, i32_w]
                                rfl
                              refine take_ (i := 5) (N := some 67) (v := ?_) (a' := ?_) #[true, false, true, false, false, true, false, false, false] rfl rfl (take_ofW HT_.out HW_.out (by kernel_rfl)) (fun _ _ _ h => h) (Or.inl ⟨by rfl, ?_⟩) hHeld ?_ ?_
                              rotate_left
                              · rintro w' ⟨s0, s1⟩
                                go_simp
                                with_reducible rfl
                              rotate_left
                              · simp only [Act.put, List.setIfInBounds_toArray, List.set_cons_zero, List.set_cons_succ, i64_w, i32_w]
                                rfl
                              refine share_ (G := ?G974) ?h974 ?g974
                              case h974 =>
                                intro key
                                refine two_ (i := 1) (j := 3) (Ni := some 63) (Nj := some 65) #[true, true, true, false, false, true, false, false, false] #[true, false, true, true, false, true, false, false, false] rfl rfl rfl rfl (two_of HT_.out (by kernel_rfl)) (by decide) (by decide) (fun K hK => ?_) (fun K hK => ?_)
                                · have hz : w106.cell? ⟨gb397, 0, none⟩ = some (u398000) := (blk_cell BK397.out 0).trans rfl
                                  refine value_ (w1 := ?_) (v := ?_) (by rfl) rfl ?_ ?_
                                  rotate_left 2
                                  · go_simp
                                    constructor
                                    · rfl
                                    · rfl
                                  refine hK.out _ _ ⟨(blk_cell BK402.out 0).trans rfl, (blk_cell BK402.out 1).trans rfl⟩ (fun hHeld => ?_)
                                  clear hK K
                                  refine norm_ (a' := ?_) ?_ ?_
                                  rotate_left
                                  · show Act.put _ (some 63) _ = _
                                    simp only [Act.put, List.setIfInBounds_toArray, List.set_cons_zero, List.set_cons_succ, i64_w, i32_w]
                                    rfl
                                  refine one_ (i := 3) (N := some 65) #[true, true, true, true, false, true, false, false, false] rfl rfl (one_of HT_.out (by kernel_rfl)) (by decide) (fun K hK => ?_)
                                  refine value_ (w1 := ?_) (v := ?_) (by rfl) rfl ?_ ?_
                                  rotate_left 2
                                  · go_simp
                                    constructor
                                    · rfl
                                    · rfl
                                  refine hK.out _ _ ⟨(blk_cell (blk_alloc BK402.out _) 0).trans rfl, (blk_cell (blk_alloc BK402.out _) 1).trans rfl⟩ (fun hHeld => ?_)
                                  clear hK K
                                  refine norm_ (a' := ?_) ?_ ?_
                                  rotate_left
                                  · show Act.put _ (some 65) _ = _
                                    simp only [Act.put, List.setIfInBounds_toArray, List.set_cons_zero, List.set_cons_succ, i64_w, i32_w]
                                    rfl
                                  exact key
                                · refine value_ (w1 := ?_) (v := ?_) (by rfl) rfl ?_ ?_
                                  rotate_left 2
                                  · go_simp
                                    constructor
                                    · rfl
                                    · rfl
                                  refine hK.out _ _ ⟨(blk_cell (blk_alloc BK402.out _) 0).trans rfl, (blk_cell (blk_alloc BK402.out _) 1).trans rfl⟩ (fun hHeld => ?_)
                                  clear hK K
                                  refine norm_ (a' := ?_) ?_ ?_
                                  rotate_left
                                  · show Act.put _ (some 65) _ = _
                                    simp only [Act.put, List.setIfInBounds_toArray, List.set_cons_zero, List.set_cons_succ, i64_w, i32_w]
                                    rfl
                                  refine cellAt_ (p := ⟨gb397, 0, none⟩) (u := u398000) ((blk_cell (blk_alloc BK397.out _) 0).trans rfl) (fun hz => ?_)
                                  refine one_ (i := 1) (N := some 63) #[true, true, true, true, false, true, false, false, false] rfl rfl (one_of HT_.out (by kernel_rfl)) (by decide) (fun K hK => ?_)
                                  refine value_ (w1 := ?_) (v := ?_) (by rfl) rfl ?_ ?_
                                  rotate_left 2
                                  · go_simp
                                    constructor
                                    · rfl
                                    · rfl
                                  refine hK.out _ _ ⟨(blk_cell (blk_alloc BK402.out _) 0).trans rfl, (blk_cell (blk_alloc BK402.out _) 1).trans rfl⟩ (fun hHeld => ?_)
                                  clear hK K
                                  refine norm_ (a' := ?_) ?_ ?_
                                  rotate_left
                                  · show Act.put _ (some 63) _ = _
                                    simp only [Act.put, List.setIfInBounds_toArray, List.set_cons_zero, List.set_cons_succ, i64_w, i32_w]
                                    rfl
                                  exact key
                              refine one_ (i := 4) (N := some 66) #[true, true, true, true, true, true, false, false, false] rfl rfl (one_of HT_.out (by kernel_rfl)) (by decide) (fun K hK => ?_)
                              refine Kd.R_append_step (Kd.int .i64) (w0 := w) w.heap.size (by rfl) (.tmp 63) (.tmp 65) 23 2 (.int .i64 0) 8 rfl Try.underlying23 info2 rfl (by decide) (by omega) u398000 x398000_3 t398 [.int .i64 t398] (fun _ => True) (fun _ => False) rfl rfl ?aP (fun _ hk => hk.elim) ?aF ?aO ?aB ?aS ?aL ?_
                              (case aP => exact rfl)
                              (case aB => exact (by repeat (first | (with_reducible first | exact HB.out | apply below_alloc | apply pw_below_drewN | apply below_drew1 | refine below_set ?_ GE384.out | refine below_set ?_ GE385.out | refine below_set ?_ GE386.out | refine below_set ?_ GE397.out | refine below_set ?_ GE402.out) | exact HB.out)))
                              (case aF => exact (fun _ _ => trivial))
                              (case aO => exact (by (with_reducible repeat (first | apply Kd.R_alloc | apply Kd.R_drewN | apply Kd.R_drew)); exact HO_398000.out))
                              (case aS => exact (below_size (by repeat (first | (with_reducible first | exact HB.out | apply below_alloc | apply pw_below_drewN | apply below_drew1 | refine below_set ?_ GE384.out | refine below_set ?_ GE385.out | refine below_set ?_ GE386.out | refine below_set ?_ GE397.out | refine below_set ?_ GE402.out) | exact HB.out))))
                              (case aL => have := LMc64.out; omega)
                              intro v404 w107 ho hb hg hat
                              rw [← Ny403.out] at ho
                              have n0_ := Aside0.mk (blk_grown (g := gb384) (o := .cells #[.slice A0_0 l0_0.length c0_0, .slice A0_1 l0_1.length c0_1, .slice A0_2 l0_2.length c0_2, .int .i64 a0_3, .int .i64 a0_4] 55 (0, 0)) (by (with_reducible repeat (first | refine blk_drewN ?_ _ | refine blk_drew ?_ | refine blk_alloc ?_ _)); exact BK384.out) hg (Kd.R_ne HO_398000.out BK384.out (by decide)))
                              have n1_ := Aside0.mk (blk_grown (g := gb385) (o := .cells #[.int .i64 x386000_3, .int .i64 x386001_3] 47 (0, 0)) (by (with_reducible repeat (first | refine blk_drewN ?_ _ | refine blk_drew ?_ | refine blk_alloc ?_ _)); exact BK385.out) hg (Kd.R_ne HO_398000.out BK385.out (by decide)))
                              have n2_ := Aside0.mk (blk_grown (g := gb386) (o := .cells #[.slice none 0 0, .int .i64 x387001_3] 84 (0, 0)) (by (with_reducible repeat (first | refine blk_drewN ?_ _ | refine blk_drew ?_ | refine blk_alloc ?_ _)); exact BK386.out) hg (Kd.R_ne HO_398000.out BK386.out (by decide)))
                              have n3_ := Aside0.mk (blk_grown (g := gb397) (o := .cells #[u398000, .int .i64 0] 84 (0, 0)) (by (with_reducible repeat (first | refine blk_drewN ?_ _ | refine blk_drew ?_ | refine blk_alloc ?_ _)); exact BK397.out) hg (Kd.R_ne HO_398000.out BK397.out (by decide)))
                              have n4_ := Aside0.mk (blk_grown (g := gb402) (o := .cells #[.int .i64 t399, .int .i64 t400] 47 (0, 0)) (by (with_reducible repeat (first | refine blk_drewN ?_ _ | refine blk_drew ?_ | refine blk_alloc ?_ _)); exact BK402.out) hg (Kd.R_ne HO_398000.out BK402.out (by decide)))
                              have n5_ := Aside0.mk (hb)
                              have n6_ := Aside0.mk (ho)
                              clear BK384
                              clear BK385
                              clear BK386
                              clear BK397
                              clear BK402
                              clear HB
                              clear HO_398000
                              have BK384 := n0_
                              have BK385 := n1_
                              have BK386 := n2_
                              have BK397 := n3_
                              have BK402 := n4_
                              have HB := n5_
                              have HO405 := n6_
                              clear n0_ n1_ n2_ n3_ n4_ n5_ n6_
                              clear ho hb hg hat
                              obtain ⟨Ao108, co108, eo108⟩ := Kd.R_slice HO405.out
                              (first | subst eo108 | (injection eo108 with f1_ f2_ f3_; have f4_ := f1_.symm; have f5_ := f3_.symm; clear f1_ f2_ f3_; subst f4_; subst f5_))
                              refine hK.out _ _ ⟨(blk_cell BK402.out 0).trans rfl, (blk_cell BK402.out 1).trans rfl⟩ (fun hHeld => ?_)
                              clear hK K
                              refine norm_ (a' := ?_) ?_ ?_
                              rotate_left
                              · show Act.put _ (some 66) _ = _
                                simp only [Act.put, List.setIfInBounds_toArray, List.set_cons_zero, List.set_cons_succ, i64_w, i32_w]
                                rfl
                              refine pure_ (i := 6) (N := some 68) (v := ?_) (a' := ?_) #[true, true, true, true, true, true, true, false, false] rfl rfl (any_of HT_.out (by kernel_rfl)) (fun _ _ _ h => h) (Or.inl ⟨by rfl, ?_⟩) ?_ ?_
                              rotate_left
                              · intro w'
                                go_simp
                                with_reducible rfl
                              rotate_left
                              · simp only [Act.put, List.setIfInBounds_toArray, List.set_cons_zero, List.set_cons_succ, i64_w, i32_w]
                                rfl
                              refine one_ (i := 7) (N := none) #[true, true, true, true, true, true, true, true, false] rfl rfl (one_of HT_.out (by kernel_rfl)) (by decide) (fun K hK => ?_)
                              have hs109 : w107.cell? ⟨gb397, 0, none⟩ = some (u398000) := (blk_cell BK397.out 0).trans rfl
                              have hfs109 := blk_frozen BK397.out 0
                              have hns109_0 := NB384_397.out
                              have hns109_1 := NB385_397.out
                              have hns109_2 := NB386_397.out
                              have hns109_4 := NB402_397.out
                              have hms109_0 := NB397_384.out
                              have hms109_1 := NB397_385.out
                              have hms109_2 := NB397_386.out
                              have hms109_4 := NB397_402.out
                              refine skip_ (w1 := ?_) (by rfl) rfl ?_ ?_
                              rotate_left
                              · go_simp
                                rfl
                              refine hK.out _ _ ⟨(cell_far (p := ⟨gb397, _, none⟩) NB402_397.out _).trans hHeld.1, (cell_far (p := ⟨gb397, _, none⟩) NB402_397.out _).trans hHeld.2⟩ (fun hHeld => ?_)
                              clear hK K
                              refine one_ (i := 8) (N := none) #[true, true, true, true, true, true, true, true, true] rfl rfl (one_of HT_.out (by kernel_rfl)) (by decide) (fun K hK => ?_)
                              have hs110 : w107.cell? ⟨gb385, 0, none⟩ = some (.int .i64 x386000_3) := (blk_cell BK385.out 0).trans rfl
                              have hfs110 := blk_frozen BK385.out 0
                              have hns110_0 := NB384_385.out
                              have hns110_2 := NB386_385.out
                              have hns110_3 := NB397_385.out
                              have hns110_4 := NB402_385.out
                              have hms110_0 := NB385_384.out
                              have hms110_2 := NB385_386.out
                              have hms110_3 := NB385_397.out
                              have hms110_4 := NB385_402.out
                              have hs111 : w107.cell? ⟨gb385, 1, none⟩ = some (.int .i64 x386001_3) := (blk_cell BK385.out 1).trans rfl
                              have hfs111 := blk_frozen BK385.out 1
                              have hns111_0 := NB384_385.out
                              have hns111_2 := NB386_385.out
                              have hns111_3 := NB397_385.out
                              have hns111_4 := NB402_385.out
                              have hms111_0 := NB385_384.out
                              have hms111_2 := NB385_386.out
                              have hms111_3 := NB385_397.out
                              have hms111_4 := NB385_402.out
                              refine skip_ (w1 := ?_) (by rfl) rfl ?_ ?_
                              rotate_left
                              · go_simp
                                rfl
                              refine hK.out _ _ ⟨(cell_far (p := ⟨gb385, _, none⟩) NB402_385.out _).trans ((cell_far (p := ⟨gb385, _, none⟩) NB402_385.out _).trans hHeld.1), (cell_far (p := ⟨gb385, _, none⟩) NB402_385.out _).trans ((cell_far (p := ⟨gb385, _, none⟩) NB402_385.out _).trans hHeld.2)⟩ (fun hHeld => ?_)
                              clear hK K
                              refine done_ (done_of HT_.out (by kernel_rfl)) ?_
                              try go_wp2
                              go_roundg kj45
                              case measure => have := HJ4.out; have := HJ13.out; have := HK3.out; have := HJ45.out; omega
                              case rel => exact ⟨(t399), (t400), (x387001_3), (y403), (.slice Ao108 y403.length co108), H', ⟨by have := HJ4.out; have := HJ13.out; have := HK3.out; have := HJ45.out; omega⟩, ⟨by (with_reducible repeat (first | apply Kd.R_alloc | apply Kd.R_drewN | apply Kd.R_drew)); exact Kd.R_mono (Kd.R_far (p := ⟨gb385, 1, none⟩) (Kd.R_far (p := ⟨gb385, 0, none⟩) (Kd.R_far (p := ⟨gb397, 0, none⟩) (Kd.R_types (Kd.R_types HO405.out BK397.out (by decide)) BK385.out (by decide)) (fun _ hk => hk.1.2) (.slice Ao108 y403.length co108)) (fun _ hk => hk.2) (.int .i64 t399)) (fun _ hk => hk.2) (.int .i64 t400)) (fun _ hk => trivial)⟩, ⟨by (with_reducible repeat (first | refine blk_drewN ?_ _ | refine blk_drew ?_ | refine blk_alloc ?_ _)); refine blk_far ?_ NB384_385.out _; (with_reducible repeat (first | refine blk_drewN ?_ _ | refine blk_drew ?_ | refine blk_alloc ?_ _)); refine blk_far ?_ NB384_385.out _; (with_reducible repeat (first | refine blk_drewN ?_ _ | refine blk_drew ?_ | refine blk_alloc ?_ _)); refine blk_far ?_ NB384_397.out _; (with_reducible repeat (first | refine blk_drewN ?_ _ | refine blk_drew ?_ | refine blk_alloc ?_ _)); exact BK384.out⟩, ⟨by (with_reducible repeat (first | refine blk_drewN ?_ _ | refine blk_drew ?_ | refine blk_alloc ?_ _)); refine blk_put (cs := #[.int .i64 t399, .int .i64 x386001_3]) ?_ 1 _ rfl; (with_reducible repeat (first | refine blk_drewN ?_ _ | refine blk_drew ?_ | refine blk_alloc ?_ _)); refine blk_put (cs := #[.int .i64 x386000_3, .int .i64 x386001_3]) ?_ 0 _ rfl; (with_reducible repeat (first | refine blk_drewN ?_ _ | refine blk_drew ?_ | refine blk_alloc ?_ _)); refine blk_far ?_ NB385_397.out _; (with_reducible repeat (first | refine blk_drewN ?_ _ | refine blk_drew ?_ | refine blk_alloc ?_ _)); exact BK385.out⟩, ⟨by (with_reducible repeat (first | refine blk_drewN ?_ _ | refine blk_drew ?_ | refine blk_alloc ?_ _)); refine blk_far ?_ NB386_385.out _; (with_reducible repeat (first | refine blk_drewN ?_ _ | refine blk_drew ?_ | refine blk_alloc ?_ _)); refine blk_far ?_ NB386_385.out _; (with_reducible repeat (first | refine blk_drewN ?_ _ | refine blk_drew ?_ | refine blk_alloc ?_ _)); refine blk_far ?_ NB386_397.out _; (with_reducible repeat (first | refine blk_drewN ?_ _ | refine blk_drew ?_ | refine blk_alloc ?_ _)); exact BK386.out⟩, ⟨by (with_reducible repeat (first | refine blk_drewN ?_ _ | refine blk_drew ?_ | refine blk_alloc ?_ _)); refine blk_far ?_ NB397_385.out _; (with_reducible repeat (first | refine blk_drewN ?_ _ | refine blk_drew ?_ | refine blk_alloc ?_ _)); refine blk_far ?_ NB397_385.out _; (with_reducible repeat (first | refine blk_drewN ?_ _ | refine blk_drew ?_ | refine blk_alloc ?_ _)); refine blk_put (cs := #[u398000, .int .i64 0]) ?_ 0 _ rfl; (with_reducible repeat (first | refine blk_drewN ?_ _ | refine blk_drew ?_ | refine blk_alloc ?_ _)); exact BK397.out⟩, ⟨by repeat (first | (with_reducible first | exact HB.out | apply below_alloc | apply pw_below_drewN | apply below_drew1 | refine below_set ?_ GE384.out | refine below_set ?_ GE385.out | refine below_set ?_ GE386.out | refine below_set ?_ GE397.out | refine below_set ?_ GE402.out) | exact HB.out)⟩⟩
                          · rw [if_neg c64] at H
                            exact absurd H (by simp)
                        · rw [if_neg c63] at H
                          have c63b0 : (t401 == 0) = false := beq_eq_false_iff_ne.mpr c63
                          have c63b1 : (t401 != 0) = true := bne_iff_ne.mpr c63
                          simp only [Option.some.injEq, Prod.mk.injEq] at H
                          obtain ⟨rfl, rfl, rfl⟩ := H
                          have hnb112 := NB384_385.out
                          have hnc112 := NB385_384.out
                          have hnb113 := NB384_386.out
                          have hnc113 := NB386_384.out
                          have hnb114 := NB384_397.out
                          have hnc114 := NB397_384.out
                          have hcz115_0 : wc.cell? ⟨gb384, 0, none⟩ = some (.slice A0_0 l0_0.length c0_0) := (blk_cell BK384.out 0).trans rfl
                          have hcz115_1 : wc.cell? ⟨gb384, 1, none⟩ = some (.slice A0_1 l0_1.length c0_1) := (blk_cell BK384.out 1).trans rfl
                          have hcz115_2 : wc.cell? ⟨gb384, 2, none⟩ = some (.slice A0_2 l0_2.length c0_2) := (blk_cell BK384.out 2).trans rfl
                          have hcz115_3 : wc.cell? ⟨gb384, 3, none⟩ = some (.int .i64 a0_3) := (blk_cell BK384.out 3).trans rfl
                          have hcz115_4 : wc.cell? ⟨gb384, 4, none⟩ = some (.int .i64 a0_4) := (blk_cell BK384.out 4).trans rfl
                          have hfz115_0 := blk_frozen BK384.out 0
                          have hfz115_1 := blk_frozen BK384.out 1
                          have hfz115_2 := blk_frozen BK384.out 2
                          have hfz115_3 := blk_frozen BK384.out 3
                          have hfz115_4 := blk_frozen BK384.out 4
                          have hnb116 := NB385_386.out
                          have hnc116 := NB386_385.out
                          have hnb117 := NB385_397.out
                          have hnc117 := NB397_385.out
                          have hcz118_0 : wc.cell? ⟨gb385, 0, none⟩ = some (.int .i64 x386000_3) := (blk_cell BK385.out 0).trans rfl
                          have hcz118_1 : wc.cell? ⟨gb385, 1, none⟩ = some (.int .i64 x386001_3) := (blk_cell BK385.out 1).trans rfl
                          have hfz118_0 := blk_frozen BK385.out 0
                          have hfz118_1 := blk_frozen BK385.out 1
                          go_wp2_with (first | ((with_reducible refine gate_callee (f := 25) rfl ?_); refine goesL_ (some 54) rfl rfl Try.func25 (by kernel_rfl) rfl #[.agg #[.slice A0_0 l0_0.length c0_0, .slice A0_1 l0_1.length c0_1, .slice A0_2 l0_2.length c0_2, .int .i64 a0_3, .int .i64 a0_4], .agg #[.int .i64 x386000_3, .int .i64 x386001_3], .int .i64 a2, .int .i64 t396, .bool true] rfl (by (try simp only [List.map_toArray, List.map_cons, List.map_nil]); first | done | rfl | (simp only [List.length_drop, List.length_take]; rfl)) ?_; (with_reducible refine (hold_Step.calls kj45 _ _ l0_0 _ _ l0_1 _ _ l0_2 a0_3 a0_4 x386000_3 x386001_3 a2 t396 true t398 t399 t400 t401 _ ?side1 ?side2 ?side3 ?side4 ?side5 ?side6 A62.out).mono ?_); (case side1 => repeat (first | exact (Kd.C_below HR0_0.out HB.out) | (with_reducible refine Kd.C_alloc ?_ _) | (with_reducible refine Kd.C_drewN ?_ _) | (with_reducible refine Kd.C_drew ?_))); (case side2 => exact HC0_0.out); (case side3 => repeat (first | exact (Kd.C_below HR0_1.out HB.out) | (with_reducible refine Kd.C_alloc ?_ _) | (with_reducible refine Kd.C_drewN ?_ _) | (with_reducible refine Kd.C_drew ?_))); (case side4 => exact HC0_1.out); (case side5 => repeat (first | exact (Kd.C_below HR0_2.out HB.out) | (with_reducible refine Kd.C_alloc ?_ _) | (with_reducible refine Kd.C_drewN ?_ _) | (with_reducible refine Kd.C_drew ?_))); (case side6 => exact HC0_2.out); rintro e w119 ⟨rfl, hb⟩; refine ⟨_, rfl, ?_⟩; have n0_ := Aside0.mk (Kd.R_below (by (with_reducible repeat (first | apply Kd.R_alloc | apply Kd.R_drewN | apply Kd.R_drew)); exact HO_398000.out) hb); have n1_ := Aside0.mk (blk_below (g := gb384) (o := .cells #[.slice A0_0 l0_0.length c0_0, .slice A0_1 l0_1.length c0_1, .slice A0_2 l0_2.length c0_2, .int .i64 a0_3, .int .i64 a0_4] 55 (0, 0)) (by (with_reducible repeat (first | refine blk_drewN ?_ _ | refine blk_drew ?_ | refine blk_alloc ?_ _)); exact BK384.out) hb); have n2_ := Aside0.mk (blk_below (g := gb385) (o := .cells #[.int .i64 x386000_3, .int .i64 x386001_3] 47 (0, 0)) (by (with_reducible repeat (first | refine blk_drewN ?_ _ | refine blk_drew ?_ | refine blk_alloc ?_ _)); exact BK385.out) hb); have n3_ := Aside0.mk (blk_below (g := gb386) (o := .cells #[.slice none 0 0, .int .i64 x387001_3] 84 (0, 0)) (by (with_reducible repeat (first | refine blk_drewN ?_ _ | refine blk_drew ?_ | refine blk_alloc ?_ _)); exact BK386.out) hb); have n4_ := Aside0.mk (blk_below (g := gb397) (o := .cells #[u398000, .int .i64 0] 84 (0, 0)) (by (with_reducible repeat (first | refine blk_drewN ?_ _ | refine blk_drew ?_ | refine blk_alloc ?_ _)); exact BK397.out) hb); have n5_ := Aside0.mk (below_step (by repeat (first | (with_reducible first | exact HB.out | apply below_alloc | apply pw_below_drewN | apply below_drew1 | refine below_set ?_ GE384.out | refine below_set ?_ GE385.out | refine below_set ?_ GE386.out | refine below_set ?_ GE397.out) | exact HB.out)) hb); clear HO_398000; clear BK384; clear BK385; clear BK386; clear BK397; clear HB; have HO_398000 := n0_; have BK384 := n1_; have BK385 := n2_; have BK386 := n3_; have BK397 := n4_; have HB := n5_; clear n0_ n1_ n2_ n3_ n4_ n5_; (try clear hb); (try clear hb2); (try clear hk); (try clear hi)) | ((with_reducible refine gate_dst (N := 13) rfl ?_); refine box_event ?hg (N := 13) ?hd (cs := #[.int .i64 0, .int .i64 0]) (t := 47) ?hr ?_; (case hd => rfl); (case hg => rfl); (case hr => first | (go_simp; done) | (go_simp; rfl)); intro gb402 hg w120 hbox hb; have n0_ := Aside0.mk (Kd.R_below (by (with_reducible repeat (first | apply Kd.R_alloc | apply Kd.R_drewN | apply Kd.R_drew)); exact HO_398000.out) hb); have n1_ := Aside0.mk (blk_below (g := gb384) (o := .cells #[.slice A0_0 l0_0.length c0_0, .slice A0_1 l0_1.length c0_1, .slice A0_2 l0_2.length c0_2, .int .i64 a0_3, .int .i64 a0_4] 55 (0, 0)) (by (with_reducible repeat (first | refine blk_drewN ?_ _ | refine blk_drew ?_ | refine blk_alloc ?_ _)); exact BK384.out) hb); have n2_ := Aside0.mk (blk_below (g := gb385) (o := .cells #[.int .i64 x386000_3, .int .i64 x386001_3] 47 (0, 0)) (by (with_reducible repeat (first | refine blk_drewN ?_ _ | refine blk_drew ?_ | refine blk_alloc ?_ _)); exact BK385.out) hb); have n3_ := Aside0.mk (blk_below (g := gb386) (o := .cells #[.slice none 0 0, .int .i64 x387001_3] 84 (0, 0)) (by (with_reducible repeat (first | refine blk_drewN ?_ _ | refine blk_drew ?_ | refine blk_alloc ?_ _)); exact BK386.out) hb); have n4_ := Aside0.mk (blk_below (g := gb397) (o := .cells #[u398000, .int .i64 0] 84 (0, 0)) (by (with_reducible repeat (first | refine blk_drewN ?_ _ | refine blk_drew ?_ | refine blk_alloc ?_ _)); exact BK397.out) hb); have n5_ := Aside0.mk (below_step (by repeat (first | (with_reducible first | exact HB.out | apply below_alloc | apply pw_below_drewN | apply below_drew1 | refine below_set ?_ GE384.out | refine below_set ?_ GE385.out | refine below_set ?_ GE386.out | refine below_set ?_ GE397.out) | exact HB.out)) hb); have n6_ := Aside0.mk (hbox); have n7_ := Aside0.mk ((by rw [hg]; exact (below_size (by repeat (first | (with_reducible first | exact HB.out | apply below_alloc | apply pw_below_drewN | apply below_drew1 | refine below_set ?_ GE384.out | refine below_set ?_ GE385.out | refine below_set ?_ GE386.out | refine below_set ?_ GE397.out) | exact HB.out))) : w.heap.size ≤ gb402)); have n8_ := Aside0.mk ((by rw [hg]; exact (below_size (by repeat (first | (with_reducible first | exact HB.out | apply below_alloc | apply pw_below_drewN | apply below_drew1 | refine below_set ?_ GE384.out | refine below_set ?_ GE385.out | refine below_set ?_ GE386.out | refine below_set ?_ GE397.out) | exact HB.out))) : w.heap.size ≤ gb402)); have n9_ := Aside0.mk ((by rw [hg]; exact Nat.ne_of_lt (blk_lt (g := gb384) (o := .cells #[.slice A0_0 l0_0.length c0_0, .slice A0_1 l0_1.length c0_1, .slice A0_2 l0_2.length c0_2, .int .i64 a0_3, .int .i64 a0_4] 55 (0, 0)) (by (with_reducible repeat (first | refine blk_drewN ?_ _ | refine blk_drew ?_ | refine blk_alloc ?_ _)); exact BK384.out)) : gb384 ≠ gb402)); have n10_ := Aside0.mk ((by rw [hg]; exact Nat.ne_of_gt (blk_lt (g := gb384) (o := .cells #[.slice A0_0 l0_0.length c0_0, .slice A0_1 l0_1.length c0_1, .slice A0_2 l0_2.length c0_2, .int .i64 a0_3, .int .i64 a0_4] 55 (0, 0)) (by (with_reducible repeat (first | refine blk_drewN ?_ _ | refine blk_drew ?_ | refine blk_alloc ?_ _)); exact BK384.out)) : gb402 ≠ gb384)); have n11_ := Aside0.mk ((by rw [hg]; exact Nat.ne_of_lt (blk_lt (g := gb385) (o := .cells #[.int .i64 x386000_3, .int .i64 x386001_3] 47 (0, 0)) (by (with_reducible repeat (first | refine blk_drewN ?_ _ | refine blk_drew ?_ | refine blk_alloc ?_ _)); exact BK385.out)) : gb385 ≠ gb402)); have n12_ := Aside0.mk ((by rw [hg]; exact Nat.ne_of_gt (blk_lt (g := gb385) (o := .cells #[.int .i64 x386000_3, .int .i64 x386001_3] 47 (0, 0)) (by (with_reducible repeat (first | refine blk_drewN ?_ _ | refine blk_drew ?_ | refine blk_alloc ?_ _)); exact BK385.out)) : gb402 ≠ gb385)); have n13_ := Aside0.mk ((by rw [hg]; exact Nat.ne_of_lt (blk_lt (g := gb386) (o := .cells #[.slice none 0 0, .int .i64 x387001_3] 84 (0, 0)) (by (with_reducible repeat (first | refine blk_drewN ?_ _ | refine blk_drew ?_ | refine blk_alloc ?_ _)); exact BK386.out)) : gb386 ≠ gb402)); have n14_ := Aside0.mk ((by rw [hg]; exact Nat.ne_of_gt (blk_lt (g := gb386) (o := .cells #[.slice none 0 0, .int .i64 x387001_3] 84 (0, 0)) (by (with_reducible repeat (first | refine blk_drewN ?_ _ | refine blk_drew ?_ | refine blk_alloc ?_ _)); exact BK386.out)) : gb402 ≠ gb386)); have n15_ := Aside0.mk ((by rw [hg]; exact Nat.ne_of_lt (blk_lt (g := gb397) (o := .cells #[u398000, .int .i64 0] 84 (0, 0)) (by (with_reducible repeat (first | refine blk_drewN ?_ _ | refine blk_drew ?_ | refine blk_alloc ?_ _)); exact BK397.out)) : gb397 ≠ gb402)); have n16_ := Aside0.mk ((by rw [hg]; exact Nat.ne_of_gt (blk_lt (g := gb397) (o := .cells #[u398000, .int .i64 0] 84 (0, 0)) (by (with_reducible repeat (first | refine blk_drewN ?_ _ | refine blk_drew ?_ | refine blk_alloc ?_ _)); exact BK397.out)) : gb402 ≠ gb397)); clear HO_398000; clear BK384; clear BK385; clear BK386; clear BK397; clear HB; have HO_398000 := n0_; have BK384 := n1_; have BK385 := n2_; have BK386 := n3_; have BK397 := n4_; have HB := n5_; have BK402 := n6_; have GW402 := n7_; have GE402 := n8_; have NB384_402 := n9_; have NB402_384 := n10_; have NB385_402 := n11_; have NB402_385 := n12_; have NB386_402 := n13_; have NB402_386 := n14_; have NB397_402 := n15_; have NB402_397 := n16_; clear n0_ n1_ n2_ n3_ n4_ n5_ n6_ n7_ n8_ n9_ n10_ n11_ n12_ n13_ n14_ n15_ n16_; clear hb hbox hg; have hnb121 := NB402_384.out; have hnc121 := NB384_402.out; have hnb122 := NB402_385.out; have hnc122 := NB385_402.out; have hnb123 := NB402_386.out; have hnc123 := NB386_402.out; have hnb124 := NB402_397.out; have hnc124 := NB397_402.out; have hcz125_0 : w120.cell? ⟨gb402, 0, none⟩ = some (.int .i64 0) := (blk_cell BK402.out 0).trans rfl; have hcz125_1 : w120.cell? ⟨gb402, 1, none⟩ = some (.int .i64 0) := (blk_cell BK402.out 1).trans rfl; have hfz125_0 := blk_frozen BK402.out 0; have hfz125_1 := blk_frozen BK402.out 1; have hnb126 := NB386_397.out; have hnc126 := NB397_386.out; have hcz127_0 : w120.cell? ⟨gb386, 0, none⟩ = some (.slice none 0 0) := (blk_cell BK386.out 0).trans rfl; have hcz127_1 : w120.cell? ⟨gb386, 1, none⟩ = some (.int .i64 x387001_3) := (blk_cell BK386.out 1).trans rfl; have hfz127_0 := blk_frozen BK386.out 0; have hfz127_1 := blk_frozen BK386.out 1))
                          refine bodyPost_ret (results_ct rfl _ _ gb386 84 #[.slice none 0 0, .int .i64 0] (0, 0) _ rfl (by (with_reducible repeat (first | refine blk_drewN ?_ _ | refine blk_drew ?_ | refine blk_alloc ?_ _)); refine blk_put (cs := #[.slice none 0 0, .int .i64 x387001_3]) ?_ 1 _ rfl; (with_reducible repeat (first | refine blk_drewN ?_ _ | refine blk_drew ?_ | refine blk_alloc ?_ _)); refine blk_put (cs := #[.slice none 0 0, .int .i64 x387001_3]) ?_ 0 _ rfl; (with_reducible repeat (first | refine blk_drewN ?_ _ | refine blk_drew ?_ | refine blk_alloc ?_ _)); refine blk_far ?_ NB386_402.out _; (with_reducible repeat (first | refine blk_drewN ?_ _ | refine blk_drew ?_ | refine blk_alloc ?_ _)); refine blk_far ?_ NB386_402.out _; (with_reducible repeat (first | refine blk_drewN ?_ _ | refine blk_drew ?_ | refine blk_alloc ?_ _)); exact BK386.out) Try.underlying84 rfl (by kernel_rfl)) rfl ?_
                          exact ⟨_, by first | rfl | (simp [errW_none, errW_some] <;> rfl) | (simp [*, errW_none, errW_some] <;> rfl), by first | exact Kd.R_nil _ _ _ _ _ | exact Kd.N_nil _ _ _ _ _ | exact Kd.V_nil _ _ _ _ _ | exact Kd.Q_nil _ _ _ _ _ | exact Kd.S_nil _ _ _ _ _, by repeat (first | (with_reducible first | exact HB.out | apply below_alloc | apply pw_below_drewN | apply below_drew1 | refine below_set ?_ GE384.out | refine below_set ?_ GE385.out | refine below_set ?_ GE386.out | refine below_set ?_ GE397.out | refine below_set ?_ GE402.out) | exact HB.out)⟩
                      · replace c61 := Bool.eq_false_iff.mpr c61
                        subst c61
                        have H1 : (some (x398000_3, x386001_3, 0)) = some (r1, r2, r3) := by rw [if_neg (show ¬ (false = true) by decide)] at H; exact H
                        clear H
                        have H := H1
                        clear H1
                        simp only [Option.some.injEq, Prod.mk.injEq] at H
                        obtain ⟨rfl, rfl, rfl⟩ := H
                        have hnb128 := NB385_384.out
                        have hnc128 := NB384_385.out
                        have hnb129 := NB385_386.out
                        have hnc129 := NB386_385.out
                        have hnb130 := NB385_397.out
                        have hnc130 := NB397_385.out
                        have hcz131_0 : wc.cell? ⟨gb385, 0, none⟩ = some (.int .i64 x386000_3) := (blk_cell BK385.out 0).trans rfl
                        have hcz131_1 : wc.cell? ⟨gb385, 1, none⟩ = some (.int .i64 x386001_3) := (blk_cell BK385.out 1).trans rfl
                        have hfz131_0 := blk_frozen BK385.out 0
                        have hfz131_1 := blk_frozen BK385.out 1
                        have hnb132 := NB397_384.out
                        have hnc132 := NB384_397.out
                        have hnb133 := NB397_386.out
                        have hnc133 := NB386_397.out
                        have hcz134_0 : wc.cell? ⟨gb397, 0, none⟩ = some (u398000) := (blk_cell BK397.out 0).trans rfl
                        have hcz134_1 : wc.cell? ⟨gb397, 1, none⟩ = some (.int .i64 0) := (blk_cell BK397.out 1).trans rfl
                        have hfz134_0 := blk_frozen BK397.out 0
                        have hfz134_1 := blk_frozen BK397.out 1
                        obtain ⟨Ao135, co135, eo135⟩ := Kd.R_slice HO_398000.out
                        subst eo135
                        have hnb136 := NB386_384.out
                        have hnc136 := NB384_386.out
                        have hcz137_0 : wc.cell? ⟨gb386, 0, none⟩ = some (.slice none 0 0) := (blk_cell BK386.out 0).trans rfl
                        have hcz137_1 : wc.cell? ⟨gb386, 1, none⟩ = some (.int .i64 x387001_3) := (blk_cell BK386.out 1).trans rfl
                        have hfz137_0 := blk_frozen BK386.out 0
                        have hfz137_1 := blk_frozen BK386.out 1
                        go_wp2
                        refine bodyPost_ret (results_ct rfl _ _ gb386 84 #[.slice Ao135 x398000_3.length co135, .int .i64 x386001_3] (0, 0) _ rfl (by (with_reducible repeat (first | refine blk_drewN ?_ _ | refine blk_drew ?_ | refine blk_alloc ?_ _)); refine blk_put (cs := #[.slice Ao135 x398000_3.length co135, .int .i64 x387001_3]) ?_ 1 _ rfl; (with_reducible repeat (first | refine blk_drewN ?_ _ | refine blk_drew ?_ | refine blk_alloc ?_ _)); refine blk_put (cs := #[.slice none 0 0, .int .i64 x387001_3]) ?_ 0 _ rfl; (with_reducible repeat (first | refine blk_drewN ?_ _ | refine blk_drew ?_ | refine blk_alloc ?_ _)); refine blk_far ?_ NB386_397.out _; (with_reducible repeat (first | refine blk_drewN ?_ _ | refine blk_drew ?_ | refine blk_alloc ?_ _)); exact BK386.out) Try.underlying84 rfl (by kernel_rfl)) rfl ?_
                        exact ⟨_, by first | rfl | (simp [errW_none, errW_some] <;> rfl) | (simp [*, errW_none, errW_some] <;> rfl), by (with_reducible repeat (first | apply Kd.R_alloc | apply Kd.R_drewN | apply Kd.R_drew)); exact Kd.R_mono (Kd.R_far (p := ⟨gb386, 1, none⟩) (Kd.R_far (p := ⟨gb386, 0, none⟩) (Kd.R_far (p := ⟨gb397, 1, none⟩) (Kd.R_types (Kd.R_types HO_398000.out BK397.out (by decide)) BK386.out (by decide)) (fun _ hk => hk.1.2) (.int .i64 x386001_3)) (fun _ hk => hk.2) (.slice Ao135 x398000_3.length co135)) (fun _ hk => hk.2) (.int .i64 x386001_3)) (fun _ hk => trivial), by repeat (first | (with_reducible first | exact HB.out | apply below_alloc | apply pw_below_drewN | apply below_drew1 | refine below_set ?_ GE384.out | refine below_set ?_ GE385.out | refine below_set ?_ GE386.out | refine below_set ?_ GE397.out) | exact HB.out)⟩

end Go.Proofs.Ytfiomckebicphaa.X
