-- laid by the session's own program (xprint.py) out of Lean's print of the program; Lean checks it
import Derived.Test.YthfkfageehkhcaaX0
import Derived.Test.YthfkfageehkhcaaX4
namespace Go.Proofs.Ythfkfageehkhcaa.X
open Go.RowKit Go.Proofs.YthfkfageehkhcaaW.PrintWords Go.Proofs.YthfkfageehkhcaaW.PrintLast Go.Proofs.YthfkfageehkhcaaW.PrintMore
attribute [local go_sem] max2_int min2_int max_two min_two max_three min_three max_four min_four   -- for this text's walks alone
set_option linter.unusedVariables false
set_option linter.unusedSimpArgs false

/-! ### date_Parse: function 22 -/
/-- The digits of a piece of a text, from a place on, so many, behind a number. -/
def date_Parse.part (s : ByteArray) : Nat → Nat → Int → Option Int
  | 0, _, acc => some acc
  | k + 1, lo, acc => if 48 ≤ bt s lo then (if bt s lo ≤ 57 then date_Parse.part s k (lo + 1) (10 * acc + (bt s lo - 48)) else none) else none
def date_Parse.f (k : Nat) (a0 : ByteArray) : Option (Int × Int × Int × Int) :=
  if a0.size = 10 then (if bt a0 4 = 45 then (if bt a0 7 = 45 then
    (match date_Parse.part a0 4 0 0 with
    | none => some (0, 0, 0, 5)
    | some y => (match date_Parse.part a0 2 5 0 with
      | none => some (0, 0, 0, 5)
      | some m => (match date_Parse.part a0 2 8 0 with
        | none => some (0, 0, 0, 5)
        | some d => (date_Right.f k y m d).bind fun t => if t = true then some (y, m, d, 0) else some (0, 0, 0, 30))))
    else some (0, 0, 0, 5)) else some (0, 0, 0, 5)) else some (0, 0, 0, 5)
theorem date_Parse.mono : ∀ a0 k, LeO (date_Parse.f k a0) (date_Parse.f (k + 1) a0) := by
  intro a0 k
  unfold date_Parse.f
  split
  · split
    · split
      · split
        · exact LeO.refl _
        · split
          · exact LeO.refl _
          · split
            · exact LeO.refl _
            · exact LeO.bind (date_Right.mono _ _ _ _) (fun _ => LeO.refl _)
      · exact LeO.refl _
    · exact LeO.refl _
  · exact LeO.refl _
def date_Parse.St (s : ByteArray) (i : Nat) (a b c : Int) : Prop :=
  (if 1 ≤ i then date_Parse.part s 4 0 0 = some a else a = 0) ∧ (if 2 ≤ i then date_Parse.part s 2 5 0 = some b else b = 0) ∧ (if 3 ≤ i then date_Parse.part s 2 8 0 = some c else c = 0)
def date_Parse.In (s : ByteArray) (m lo j : Nat) (x : Int) : Prop := j ≤ m ∧ date_Parse.part s (m - j) (lo + j) x = date_Parse.part s m lo 0 ∧ 0 ≤ x ∧ x < 10 ^ j
theorem date_Parse.bt_nat (s : ByteArray) (i : Nat) (h : i < s.size) : bt s i = ((s[i]'h).toNat : Int) := by simp [bt, h]
theorem date_Parse.In_bound {s : ByteArray} {m lo j : Nat} {x : Int} (h : date_Parse.In s m lo j x) (hm : m ≤ 4) : x < 10000 := by
  obtain ⟨h1, _, _, h4⟩ := h
  obtain rfl | rfl | rfl | rfl | rfl : j = 0 ∨ j = 1 ∨ j = 2 ∨ j = 3 ∨ j = 4 := by omega
  all_goals omega
theorem date_Parse.In_bad {s : ByteArray} {m lo j : Nat} {x : Int} (h : date_Parse.In s m lo j x) (hj : j < m) (hb : bt s ((lo + j : Nat) : Int) < 48 ∨ bt s ((lo + j : Nat) : Int) > 57) : date_Parse.part s m lo 0 = none := by
  obtain ⟨_, h2, _⟩ := h
  rw [← h2]
  obtain ⟨n, hn⟩ : ∃ n, m - j = n + 1 := ⟨m - j - 1, by omega⟩
  rw [hn]
  simp only [date_Parse.part]
  rcases hb with hb | hb
  · rw [if_neg (by omega)]
  · by_cases h48 : 48 ≤ bt s ((lo + j : Nat) : Int)
    · rw [if_pos h48, if_neg (by omega)]
    · rw [if_neg h48]
theorem date_Parse.In_step {s : ByteArray} {m lo j : Nat} {x : Int} (h : date_Parse.In s m lo j x) (hj : j < m) (h1 : 48 ≤ bt s ((lo + j : Nat) : Int)) (h2 : bt s ((lo + j : Nat) : Int) ≤ 57) : date_Parse.In s m lo (j + 1) (10 * x + (bt s ((lo + j : Nat) : Int) - 48)) := by
  obtain ⟨_, h3, h4, h5⟩ := h
  refine ⟨by omega, ?_, by omega, by rw [Int.pow_succ]; omega⟩
  rw [← h3]
  obtain ⟨n, hn⟩ : ∃ n, m - j = n + 1 := ⟨m - j - 1, by omega⟩
  rw [hn, show m - (j + 1) = n by omega]
  simp only [date_Parse.part]
  rw [if_pos (by omega), if_pos (by omega)]
  rfl
theorem date_Parse.In_end {s : ByteArray} {m lo j : Nat} {x : Int} (h : date_Parse.In s m lo j x) (hj : ¬ j < m) : date_Parse.part s m lo 0 = some x := by
  obtain ⟨h1, h2, _⟩ := h
  rw [← h2, show m - j = 0 by omega]
  rfl
theorem date_Parse.some4 {a b c d r1 r2 r3 r4 : Int} (h : (some (a, b, c, d) : Option (Int × Int × Int × Int)) = some (r1, r2, r3, r4)) : r1 = a ∧ r2 = b ∧ r3 = c ∧ r4 = d := by
  simp only [Option.some.injEq, Prod.mk.injEq] at h
  exact ⟨h.1.symm, h.2.1.symm, h.2.2.1.symm, h.2.2.2.symm⟩
theorem date_Parse.bad_0 (k : Nat) (a0 : ByteArray) (h1 : a0.size = 10) (h2 : bt a0 4 = 45) (h3 : bt a0 7 = 45) (_ : True) (_ : True) (h : date_Parse.part a0 4 0 0 = none) : date_Parse.f k a0 = some (0, 0, 0, 5) := by
  unfold date_Parse.f
  rw [if_pos h1, if_pos h2, if_pos h3, h]
theorem date_Parse.bad_5 (k : Nat) (a0 : ByteArray) (h1 : a0.size = 10) (h2 : bt a0 4 = 45) (h3 : bt a0 7 = 45) {a : Int} (ha : date_Parse.part a0 4 0 0 = some a) (_ : True) (h : date_Parse.part a0 2 5 0 = none) : date_Parse.f k a0 = some (0, 0, 0, 5) := by
  unfold date_Parse.f
  rw [if_pos h1, if_pos h2, if_pos h3, ha, h]
theorem date_Parse.bad_8 (k : Nat) (a0 : ByteArray) (h1 : a0.size = 10) (h2 : bt a0 4 = 45) (h3 : bt a0 7 = 45) {a b : Int} (ha : date_Parse.part a0 4 0 0 = some a) (hb : date_Parse.part a0 2 5 0 = some b) (h : date_Parse.part a0 2 8 0 = none) : date_Parse.f k a0 = some (0, 0, 0, 5) := by
  unfold date_Parse.f
  rw [if_pos h1, if_pos h2, if_pos h3, ha, hb, h]
theorem date_Parse.good (k : Nat) (a0 : ByteArray) (h1 : a0.size = 10) (h2 : bt a0 4 = 45) (h3 : bt a0 7 = 45) {a b c : Int} (ha : date_Parse.part a0 4 0 0 = some a) (hb : date_Parse.part a0 2 5 0 = some b) (hc : date_Parse.part a0 2 8 0 = some c) : date_Parse.f k a0 = (date_Right.f k a b c).bind fun t => if t = true then some (a, b, c, 0) else some (0, 0, 0, 30) := by
  unfold date_Parse.f
  rw [if_pos h1, if_pos h2, if_pos h3, ha, hb, hc]
set_option maxHeartbeats 8000000 in
set_option maxRecDepth 100000 in
theorem date_Parse.calls_no (a0 : ByteArray) (w : World) (h : ¬ (a0.size = 10 ∧ bt a0 4 = 45 ∧ bt a0 7 = 45)) :
    Calls Try.prog 22 #[.string a0] w fun e w' => e = .returned (.tuple #[.agg #[.int .i64 0, .int .i64 0, .int .i64 0], .int .i64 5]) ∧ Below w.heap.size w w' := by
  have hu := Try.underlying23
  have HB := Aside0.mk (Below.refl w.heap.size w)
  by_cases h1 : a0.size = 10
  · have h1b : ((a0.size : Int) != 10) = false := by simp; omega
    have h4 : 4 < a0.size := by omega
    have h7 : 7 < a0.size := by omega
    have e4 := date_Parse.bt_nat a0 4 h4
    have e7 := date_Parse.bt_nat a0 7 h7
    by_cases h2 : bt a0 4 = 45
    · have h3 : ¬ bt a0 7 = 45 := fun x => h ⟨h1, h2, x⟩
      have h2b : (((a0[4]'h4).toNat : Int) != 45) = false := by rw [← e4]; simpa using h2
      have h3b : (((a0[7]'h7).toNat : Int) != 45) = true := by rw [← e7]; simpa using h3
      clear h h1 h2 h3 e4 e7
      go_enter Try.func22, Try.ntmps22
      go_wp2_with (first | ((with_reducible refine gate_dst (N := 2) rfl ?_); refine box_event ?hg (N := 2) ?hd (cs := #[.int .i64 0, .int .i64 0, .int .i64 0]) (t := 23) ?hr ?_; (case hd => rfl); (case hg => rfl); (case hr => first | (go_simp; done) | (go_simp; rfl)); intro g1 hg w3 hbox hb;  have n0_ := Aside0.mk (below_step (by repeat (first | (with_reducible first | exact HB.out | apply below_alloc | apply pw_below_drewN | apply below_drew1) | exact HB.out)) hb); have n1_ := Aside0.mk (hbox); have n2_ := Aside0.mk ((by rw [hg]; exact (below_size (by repeat (first | (with_reducible first | exact HB.out | apply below_alloc | apply pw_below_drewN | apply below_drew1) | exact HB.out)))) : w.heap.size ≤ g1); clear HB; have HB := n0_; have BKg1 := n1_; have GEg1 := n2_; clear n0_ n1_ n2_; clear hb hbox hg;  have hcg1_0 : w3.cell? ⟨g1, 0, none⟩ = some (.int .i64 (0)) := (blk_cell BKg1.out 0).trans rfl; have hcg1_1 : w3.cell? ⟨g1, 1, none⟩ = some (.int .i64 (0)) := (blk_cell BKg1.out 1).trans rfl; have hcg1_2 : w3.cell? ⟨g1, 2, none⟩ = some (.int .i64 (0)) := (blk_cell BKg1.out 2).trans rfl; have hfg1_0 := blk_frozen BKg1.out 0; have hfg1_1 := blk_frozen BKg1.out 1; have hfg1_2 := blk_frozen BKg1.out 2))
      refine bodyPost_ret (results_ct rfl _ _ g1 23 #[.int .i64 0, .int .i64 0, .int .i64 0] (0, 0) _ rfl (by (with_reducible repeat (first | refine blk_drewN ?_ _ | refine blk_drew ?_ | refine blk_alloc ?_ _)); refine blk_put (cs := #[.int .i64 0, .int .i64 0, .int .i64 0]) ?_ 2 _ rfl; (with_reducible repeat (first | refine blk_drewN ?_ _ | refine blk_drew ?_ | refine blk_alloc ?_ _)); refine blk_put (cs := #[.int .i64 0, .int .i64 0, .int .i64 0]) ?_ 1 _ rfl; (with_reducible repeat (first | refine blk_drewN ?_ _ | refine blk_drew ?_ | refine blk_alloc ?_ _)); refine blk_put (cs := #[.int .i64 0, .int .i64 0, .int .i64 0]) ?_ 0 _ rfl; (with_reducible repeat (first | refine blk_drewN ?_ _ | refine blk_drew ?_ | refine blk_alloc ?_ _)); exact BKg1.out) Try.underlying23 rfl (by kernel_rfl)) rfl ?_
      exact ⟨by first | rfl | (simp; done), (by repeat (first | (with_reducible first | exact HB.out | apply below_alloc | apply pw_below_drewN | apply below_drew1 | refine below_set ?_ GEg1.out) | exact HB.out))⟩
    · have h2b : (((a0[4]'h4).toNat : Int) != 45) = true := by rw [← e4]; simpa using h2
      clear h h1 h2 e4 e7
      go_enter Try.func22, Try.ntmps22
      go_wp2_with (first | ((with_reducible refine gate_dst (N := 2) rfl ?_); refine box_event ?hg (N := 2) ?hd (cs := #[.int .i64 0, .int .i64 0, .int .i64 0]) (t := 23) ?hr ?_; (case hd => rfl); (case hg => rfl); (case hr => first | (go_simp; done) | (go_simp; rfl)); intro g1 hg w3 hbox hb;  have n0_ := Aside0.mk (below_step (by repeat (first | (with_reducible first | exact HB.out | apply below_alloc | apply pw_below_drewN | apply below_drew1) | exact HB.out)) hb); have n1_ := Aside0.mk (hbox); have n2_ := Aside0.mk ((by rw [hg]; exact (below_size (by repeat (first | (with_reducible first | exact HB.out | apply below_alloc | apply pw_below_drewN | apply below_drew1) | exact HB.out)))) : w.heap.size ≤ g1); clear HB; have HB := n0_; have BKg1 := n1_; have GEg1 := n2_; clear n0_ n1_ n2_; clear hb hbox hg;  have hcg1_0 : w3.cell? ⟨g1, 0, none⟩ = some (.int .i64 (0)) := (blk_cell BKg1.out 0).trans rfl; have hcg1_1 : w3.cell? ⟨g1, 1, none⟩ = some (.int .i64 (0)) := (blk_cell BKg1.out 1).trans rfl; have hcg1_2 : w3.cell? ⟨g1, 2, none⟩ = some (.int .i64 (0)) := (blk_cell BKg1.out 2).trans rfl; have hfg1_0 := blk_frozen BKg1.out 0; have hfg1_1 := blk_frozen BKg1.out 1; have hfg1_2 := blk_frozen BKg1.out 2))
      refine bodyPost_ret (results_ct rfl _ _ g1 23 #[.int .i64 0, .int .i64 0, .int .i64 0] (0, 0) _ rfl (by (with_reducible repeat (first | refine blk_drewN ?_ _ | refine blk_drew ?_ | refine blk_alloc ?_ _)); refine blk_put (cs := #[.int .i64 0, .int .i64 0, .int .i64 0]) ?_ 2 _ rfl; (with_reducible repeat (first | refine blk_drewN ?_ _ | refine blk_drew ?_ | refine blk_alloc ?_ _)); refine blk_put (cs := #[.int .i64 0, .int .i64 0, .int .i64 0]) ?_ 1 _ rfl; (with_reducible repeat (first | refine blk_drewN ?_ _ | refine blk_drew ?_ | refine blk_alloc ?_ _)); refine blk_put (cs := #[.int .i64 0, .int .i64 0, .int .i64 0]) ?_ 0 _ rfl; (with_reducible repeat (first | refine blk_drewN ?_ _ | refine blk_drew ?_ | refine blk_alloc ?_ _)); exact BKg1.out) Try.underlying23 rfl (by kernel_rfl)) rfl ?_
      exact ⟨by first | rfl | (simp; done), (by repeat (first | (with_reducible first | exact HB.out | apply below_alloc | apply pw_below_drewN | apply below_drew1 | refine below_set ?_ GEg1.out) | exact HB.out))⟩
  · have h1b : ((a0.size : Int) != 10) = true := by simp; omega
    clear h1 h
    go_enter Try.func22, Try.ntmps22
    go_wp2_with (first | ((with_reducible refine gate_dst (N := 2) rfl ?_); refine box_event ?hg (N := 2) ?hd (cs := #[.int .i64 0, .int .i64 0, .int .i64 0]) (t := 23) ?hr ?_; (case hd => rfl); (case hg => rfl); (case hr => first | (go_simp; done) | (go_simp; rfl)); intro g1 hg w3 hbox hb;  have n0_ := Aside0.mk (below_step (by repeat (first | (with_reducible first | exact HB.out | apply below_alloc | apply pw_below_drewN | apply below_drew1) | exact HB.out)) hb); have n1_ := Aside0.mk (hbox); have n2_ := Aside0.mk ((by rw [hg]; exact (below_size (by repeat (first | (with_reducible first | exact HB.out | apply below_alloc | apply pw_below_drewN | apply below_drew1) | exact HB.out)))) : w.heap.size ≤ g1); clear HB; have HB := n0_; have BKg1 := n1_; have GEg1 := n2_; clear n0_ n1_ n2_; clear hb hbox hg;  have hcg1_0 : w3.cell? ⟨g1, 0, none⟩ = some (.int .i64 (0)) := (blk_cell BKg1.out 0).trans rfl; have hcg1_1 : w3.cell? ⟨g1, 1, none⟩ = some (.int .i64 (0)) := (blk_cell BKg1.out 1).trans rfl; have hcg1_2 : w3.cell? ⟨g1, 2, none⟩ = some (.int .i64 (0)) := (blk_cell BKg1.out 2).trans rfl; have hfg1_0 := blk_frozen BKg1.out 0; have hfg1_1 := blk_frozen BKg1.out 1; have hfg1_2 := blk_frozen BKg1.out 2))
    refine bodyPost_ret (results_ct rfl _ _ g1 23 #[.int .i64 0, .int .i64 0, .int .i64 0] (0, 0) _ rfl (by (with_reducible repeat (first | refine blk_drewN ?_ _ | refine blk_drew ?_ | refine blk_alloc ?_ _)); refine blk_put (cs := #[.int .i64 0, .int .i64 0, .int .i64 0]) ?_ 2 _ rfl; (with_reducible repeat (first | refine blk_drewN ?_ _ | refine blk_drew ?_ | refine blk_alloc ?_ _)); refine blk_put (cs := #[.int .i64 0, .int .i64 0, .int .i64 0]) ?_ 1 _ rfl; (with_reducible repeat (first | refine blk_drewN ?_ _ | refine blk_drew ?_ | refine blk_alloc ?_ _)); refine blk_put (cs := #[.int .i64 0, .int .i64 0, .int .i64 0]) ?_ 0 _ rfl; (with_reducible repeat (first | refine blk_drewN ?_ _ | refine blk_drew ?_ | refine blk_alloc ?_ _)); exact BKg1.out) Try.underlying23 rfl (by kernel_rfl)) rfl ?_
    exact ⟨by first | rfl | (simp; done), (by repeat (first | (with_reducible first | exact HB.out | apply below_alloc | apply pw_below_drewN | apply below_drew1 | refine below_set ?_ GEg1.out) | exact HB.out))⟩
set_option maxHeartbeats 8000000 in
set_option maxRecDepth 100000 in
theorem date_Parse.calls_yes (k : Nat) (a0 : ByteArray) (r1 r2 r3 r4 : Int) (w : World) (h1 : a0.size = 10) (h2 : bt a0 4 = 45) (h3 : bt a0 7 = 45) (h : date_Parse.f k a0 = some (r1, r2, r3, r4)) :
    Calls Try.prog 22 #[.string a0] w fun e w' => e = .returned (.tuple #[.agg #[.int .i64 r1, .int .i64 r2, .int .i64 r3], .int .i64 r4]) ∧ Below w.heap.size w w' := by
  have hu := Try.underlying23
  have HB := Aside0.mk (Below.refl w.heap.size w)
  have h4 : 4 < a0.size := by omega
  have h7 : 7 < a0.size := by omega
  have e4 := date_Parse.bt_nat a0 4 h4
  have e7 := date_Parse.bt_nat a0 7 h7
  have h2b : (((a0[4]'h4).toNat : Int) != 45) = false := by rw [← e4]; simpa using h2
  have h3b : (((a0[7]'h7).toNat : Int) != 45) = false := by rw [← e7]; simpa using h3
  have H2 := Aside0.mk h2
  have H3 := Aside0.mk h3
  have H := Aside0.mk h
  clear h h2 h3 e4 e7
  have i0 : ∀ (x y z : ByteArray) (W : World), (Instr.index 50 (.agg #[.string x, .string y, .string z]) (.int .i64 0)).run Try.prog W = .ok (.string x) W := fun _ _ _ _ => by kernel_rfl
  have i1 : ∀ (x y z : ByteArray) (W : World), (Instr.index 50 (.agg #[.string x, .string y, .string z]) (.int .i64 1)).run Try.prog W = .ok (.string y) W := fun _ _ _ _ => by kernel_rfl
  have i2 : ∀ (x y z : ByteArray) (W : World), (Instr.index 50 (.agg #[.string x, .string y, .string z]) (.int .i64 2)).run Try.prog W = .ok (.string z) W := fun _ _ _ _ => by kernel_rfl
  go_enter Try.func22, Try.ntmps22
  go_wp2_with (first | ((with_reducible refine gate_dst (N := 2) rfl ?_); refine box_event ?hg (N := 2) ?hd (cs := #[.int .i64 0, .int .i64 0, .int .i64 0]) (t := 23) ?hr ?_; (case hd => rfl); (case hg => rfl); (case hr => first | (go_simp; done) | (go_simp; rfl)); intro g1 hg w3 hbox hb;  have n0_ := Aside0.mk (below_step (by repeat (first | (with_reducible first | exact HB.out | apply below_alloc | apply pw_below_drewN | apply below_drew1) | exact HB.out)) hb); have n1_ := Aside0.mk (hbox); have n2_ := Aside0.mk ((by rw [hg]; exact (below_size (by repeat (first | (with_reducible first | exact HB.out | apply below_alloc | apply pw_below_drewN | apply below_drew1) | exact HB.out)))) : w.heap.size ≤ g1); clear HB; have HB := n0_; have BKg1 := n1_; have GEg1 := n2_; clear n0_ n1_ n2_; clear hb hbox hg;  have hcg1_0 : w3.cell? ⟨g1, 0, none⟩ = some (.int .i64 (0)) := (blk_cell BKg1.out 0).trans rfl; have hcg1_1 : w3.cell? ⟨g1, 1, none⟩ = some (.int .i64 (0)) := (blk_cell BKg1.out 1).trans rfl; have hcg1_2 : w3.cell? ⟨g1, 2, none⟩ = some (.int .i64 (0)) := (blk_cell BKg1.out 2).trans rfl; have hfg1_0 := blk_frozen BKg1.out 0; have hfg1_1 := blk_frozen BKg1.out 1; have hfg1_2 := blk_frozen BKg1.out 2) | ((with_reducible refine gate_dst (N := 4) rfl ?_); refine box_event ?hg (N := 4) ?hd (cs := #[.int .i64 0, .int .i64 0, .int .i64 0]) (t := 49) ?hr ?_; (case hd => rfl); (case hg => rfl); (case hr => first | (go_simp; done) | (go_simp; rfl)); intro g2 hg w4 hbox hb; have n4_ := Aside0.mk (blk_below (g := g1) (o := .cells #[.int .i64 0, .int .i64 0, .int .i64 0] 23 (0, 0)) (by (with_reducible repeat (first | refine blk_drewN ?_ _ | refine blk_drew ?_ | refine blk_alloc ?_ _)); exact BKg1.out) hb); have n0_ := Aside0.mk (below_step (by repeat (first | (with_reducible first | exact HB.out | apply below_alloc | apply pw_below_drewN | apply below_drew1) | exact HB.out)) hb); have n1_ := Aside0.mk (hbox); have n2_ := Aside0.mk ((by rw [hg]; exact (below_size (by repeat (first | (with_reducible first | exact HB.out | apply below_alloc | apply pw_below_drewN | apply below_drew1) | exact HB.out)))) : w.heap.size ≤ g2); clear HB; have HB := n0_; have BKg2 := n1_; have GEg2 := n2_; clear n0_ n1_ n2_; clear hb hbox hg; clear BKg1 hcg1_0 hcg1_1 hcg1_2 hfg1_0 hfg1_1 hfg1_2; have BKg1 := n4_; clear n4_; have hcg1_0 : w4.cell? ⟨g1, 0, none⟩ = some (.int .i64 (0)) := (blk_cell BKg1.out 0).trans rfl; have hcg1_1 : w4.cell? ⟨g1, 1, none⟩ = some (.int .i64 (0)) := (blk_cell BKg1.out 1).trans rfl; have hcg1_2 : w4.cell? ⟨g1, 2, none⟩ = some (.int .i64 (0)) := (blk_cell BKg1.out 2).trans rfl; have hfg1_0 := blk_frozen BKg1.out 0; have hfg1_1 := blk_frozen BKg1.out 1; have hfg1_2 := blk_frozen BKg1.out 2; have hcg2_0 : w4.cell? ⟨g2, 0, none⟩ = some (.int .i64 (0)) := (blk_cell BKg2.out 0).trans rfl; have hcg2_1 : w4.cell? ⟨g2, 1, none⟩ = some (.int .i64 (0)) := (blk_cell BKg2.out 1).trans rfl; have hcg2_2 : w4.cell? ⟨g2, 2, none⟩ = some (.int .i64 (0)) := (blk_cell BKg2.out 2).trans rfl; have hfg2_0 := blk_frozen BKg2.out 0; have hfg2_1 := blk_frozen BKg2.out 1; have hfg2_2 := blk_frozen BKg2.out 2))
  go_quiet (fail)
  go_wp2
  have n1_ := Aside0.mk (show (w4.drewN nq).heap[g1]? = some (.cells #[.int .i64 0, .int .i64 0, .int .i64 0] 23 (0, 0)) by (with_reducible repeat (first | refine blk_drewN ?_ _ | refine blk_drew ?_ | refine blk_alloc ?_ _)); exact BKg1.out)
  have n2_ := Aside0.mk (show (w4.drewN nq).heap[g2]? = some (.cells #[.int .i64 0, .int .i64 0, .int .i64 0] 49 (0, 0)) by (with_reducible repeat (first | refine blk_drewN ?_ _ | refine blk_drew ?_ | refine blk_alloc ?_ _)); exact BKg2.out)
  have n3_ := Aside0.mk (show Below w.heap.size w (w4.drewN nq) from (by repeat (first | (with_reducible first | exact HB.out | apply below_alloc | apply pw_below_drewN | apply below_drew1) | exact HB.out)))
  clear BKg1 BKg2 HB hcg1_0 hcg1_1 hcg1_2 hfg1_0 hfg1_1 hfg1_2 hcg2_0 hcg2_1 hcg2_2 hfg2_0 hfg2_1 hfg2_2
  go_loopg [30] 3 (fun kq v30 w' => ∃ (i : Int) (a b c : Int), v30 = .int .i64 i ∧ Aside0 (0 ≤ i ∧ i ≤ 3 ∧ kq = (3 - i).toNat ∧ date_Parse.St a0 i.toNat a b c) ∧ Aside0 (w'.heap[g1]? = some (.cells #[.int .i64 0, .int .i64 0, .int .i64 0] 23 (0, 0))) ∧ Aside0 (w'.heap[g2]? = some (.cells #[.int .i64 a, .int .i64 b, .int .i64 c] 49 (0, 0))) ∧ Aside0 (Below w.heap.size w w'))
  case atStart => exact ⟨0, 0, 0, 0, rfl, ⟨by omega, by omega, rfl, by simp [date_Parse.St]⟩, n1_, n2_, n3_⟩
  case round =>
    clear n1_ n2_ n3_
    obtain ⟨i, a, b, c, rfl, HS, BKg1, BKg2, HB⟩ := hrel
    have hi := HS.out.1
    have hi2 := HS.out.2.1
    obtain rfl | rfl | rfl | rfl : i = 0 ∨ i = 1 ∨ i = 2 ∨ i = 3 := by omega
    all_goals clear hi hi2
    · have S0 := HS.out.2.2.2
      simp only [date_Parse.St, Int.toNat_zero] at S0
      obtain ⟨rfl, rfl, rfl⟩ : a = 0 ∧ b = 0 ∧ c = 0 := by simpa using S0
      clear S0
      go_wp2
      go_loopg [36] 4 (fun kq v36 w' => ∃ (j : Nat) (x : Int), v36 = .int .i64 j ∧ Aside0 (kq = 4 - j ∧ date_Parse.In a0 4 0 j x) ∧ Aside0 (w'.heap[g1]? = some (.cells #[.int .i64 0, .int .i64 0, .int .i64 0] 23 (0, 0))) ∧ Aside0 (w'.heap[g2]? = some (.cells #[.int .i64 (x), .int .i64 (0), .int .i64 (0)] 49 (0, 0))) ∧ Aside0 (Below w.heap.size w w'))
      case atStart => exact ⟨0, 0, rfl, ⟨rfl, by omega, rfl, by omega, by omega⟩, ⟨by (with_reducible repeat (first | refine blk_drewN ?_ _ | refine blk_drew ?_ | refine blk_alloc ?_ _)); exact BKg1.out⟩, ⟨by (with_reducible repeat (first | refine blk_drewN ?_ _ | refine blk_drew ?_ | refine blk_alloc ?_ _)); exact BKg2.out⟩, ⟨(by repeat (first | (with_reducible first | exact HB.out | apply below_alloc | apply pw_below_drewN | apply below_drew1) | exact HB.out))⟩⟩
      case round =>
        clear BKg1 BKg2 HB
        obtain ⟨j, x, rfl, HJ, BKg1, BKg2, HB⟩ := hrel
        have hjm := HJ.out.2.1
        by_cases hj : j < 4
        · have hjs : j < (a0.extract 0 4).size := by rw [ByteArray.size_extract]; omega
          have eb : bt a0 ((0 + j : Nat) : Int) = (((a0.extract 0 4)[j]'hjs).toNat : Int) := by rw [date_Parse.bt_nat a0 (0 + j) (by omega), ByteArray.getElem_extract]
          have hx0 := HJ.out.2.2.2.1
          have hx1 : x < 10000 := date_Parse.In_bound HJ.out.2 (by omega)
          have hcg1_0 : wr.cell? ⟨g1, 0, none⟩ = some (.int .i64 (0)) := (blk_cell BKg1.out 0).trans rfl; have hcg1_1 : wr.cell? ⟨g1, 1, none⟩ = some (.int .i64 (0)) := (blk_cell BKg1.out 1).trans rfl; have hcg1_2 : wr.cell? ⟨g1, 2, none⟩ = some (.int .i64 (0)) := (blk_cell BKg1.out 2).trans rfl; have hfg1_0 := blk_frozen BKg1.out 0; have hfg1_1 := blk_frozen BKg1.out 1; have hfg1_2 := blk_frozen BKg1.out 2
          have hcg2_0 : wr.cell? ⟨g2, 0, none⟩ = some (.int .i64 (x)) := (blk_cell BKg2.out 0).trans rfl; have hcg2_1 : wr.cell? ⟨g2, 1, none⟩ = some (.int .i64 (0)) := (blk_cell BKg2.out 1).trans rfl; have hcg2_2 : wr.cell? ⟨g2, 2, none⟩ = some (.int .i64 (0)) := (blk_cell BKg2.out 2).trans rfl; have hfg2_0 := blk_frozen BKg2.out 0; have hfg2_1 := blk_frozen BKg2.out 1; have hfg2_2 := blk_frozen BKg2.out 2
          have EB := Aside0.mk eb
          clear hjm
          by_cases hd1 : bt a0 ((0 + j : Nat) : Int) < 48
          · have hd1b : decide ((((a0.extract 0 4)[j]'hjs).toNat : Int) < 48) = true := by rw [← eb]; simpa using hd1
            clear eb
            have HD := Aside0.mk hd1
            clear hd1
            go_wp2
            refine bodyPost_ret (results_ct rfl _ _ g1 23 #[.int .i64 0, .int .i64 0, .int .i64 0] (0, 0) _ rfl (by (with_reducible repeat (first | refine blk_drewN ?_ _ | refine blk_drew ?_ | refine blk_alloc ?_ _)); refine blk_put (cs := #[.int .i64 0, .int .i64 0, .int .i64 0]) ?_ 2 _ rfl; (with_reducible repeat (first | refine blk_drewN ?_ _ | refine blk_drew ?_ | refine blk_alloc ?_ _)); refine blk_put (cs := #[.int .i64 0, .int .i64 0, .int .i64 0]) ?_ 1 _ rfl; (with_reducible repeat (first | refine blk_drewN ?_ _ | refine blk_drew ?_ | refine blk_alloc ?_ _)); refine blk_put (cs := #[.int .i64 0, .int .i64 0, .int .i64 0]) ?_ 0 _ rfl; (with_reducible repeat (first | refine blk_drewN ?_ _ | refine blk_drew ?_ | refine blk_alloc ?_ _)); exact BKg1.out) Try.underlying23 rfl (by kernel_rfl)) rfl ?_
            have HN := date_Parse.In_bad HJ.out.2 hj (Or.inl HD.out)
            have HR := date_Parse.bad_0 k a0 h1 H2.out H3.out trivial trivial HN
            rw [HR] at H
            obtain ⟨rfl, rfl, rfl, rfl⟩ := date_Parse.some4 H.out
            exact ⟨by first | rfl | (simp; done), (by repeat (first | (with_reducible first | exact HB.out | apply below_alloc | apply pw_below_drewN | apply below_drew1 | refine below_set ?_ GEg1.out) | exact HB.out))⟩
          · by_cases hd2 : bt a0 ((0 + j : Nat) : Int) > 57
            · have hd1b : decide ((((a0.extract 0 4)[j]'hjs).toNat : Int) < 48) = false := by rw [← eb]; simpa using hd1
              have hd2b : decide (57 < (((a0.extract 0 4)[j]'hjs).toNat : Int)) = true := by rw [← eb]; simpa using hd2
              clear eb
              have HD := Aside0.mk hd2
              clear hd1 hd2
              go_wp2
              refine bodyPost_ret (results_ct rfl _ _ g1 23 #[.int .i64 0, .int .i64 0, .int .i64 0] (0, 0) _ rfl (by (with_reducible repeat (first | refine blk_drewN ?_ _ | refine blk_drew ?_ | refine blk_alloc ?_ _)); refine blk_put (cs := #[.int .i64 0, .int .i64 0, .int .i64 0]) ?_ 2 _ rfl; (with_reducible repeat (first | refine blk_drewN ?_ _ | refine blk_drew ?_ | refine blk_alloc ?_ _)); refine blk_put (cs := #[.int .i64 0, .int .i64 0, .int .i64 0]) ?_ 1 _ rfl; (with_reducible repeat (first | refine blk_drewN ?_ _ | refine blk_drew ?_ | refine blk_alloc ?_ _)); refine blk_put (cs := #[.int .i64 0, .int .i64 0, .int .i64 0]) ?_ 0 _ rfl; (with_reducible repeat (first | refine blk_drewN ?_ _ | refine blk_drew ?_ | refine blk_alloc ?_ _)); exact BKg1.out) Try.underlying23 rfl (by kernel_rfl)) rfl ?_
              have HN := date_Parse.In_bad HJ.out.2 hj (Or.inr HD.out)
              have HR := date_Parse.bad_0 k a0 h1 H2.out H3.out trivial trivial HN
              rw [HR] at H
              obtain ⟨rfl, rfl, rfl, rfl⟩ := date_Parse.some4 H.out
              exact ⟨by first | rfl | (simp; done), (by repeat (first | (with_reducible first | exact HB.out | apply below_alloc | apply pw_below_drewN | apply below_drew1 | refine below_set ?_ GEg1.out) | exact HB.out))⟩
            · have hd1b : decide ((((a0.extract 0 4)[j]'hjs).toNat : Int) < 48) = false := by rw [← eb]; simpa using hd1
              have hd2b : decide (57 < (((a0.extract 0 4)[j]'hjs).toNat : Int)) = false := by rw [← eb]; simpa using hd2
              have hlo : 48 ≤ (((a0.extract 0 4)[j]'hjs).toNat : Int) := by omega
              have hhi : (((a0.extract 0 4)[j]'hjs).toNat : Int) ≤ 57 := by omega
              clear eb
              have HD := Aside0.mk (show 48 ≤ bt a0 ((0 + j : Nat) : Int) ∧ bt a0 ((0 + j : Nat) : Int) ≤ 57 by omega)
              clear hd1 hd2
              go_wp2
              go_region
              go_wp2
              go_roundg (4 - (j + 1))
              case measure => have := HJ.out.1; omega
              case rel => exact ⟨j + 1, 10 * x + (bt a0 ((0 + j : Nat) : Int) - 48), by simp, ⟨by omega, date_Parse.In_step HJ.out.2 hj HD.out.1 HD.out.2⟩, ⟨by (with_reducible repeat (first | refine blk_drewN ?_ _ | refine blk_drew ?_ | refine blk_alloc ?_ _)); refine blk_far ?_ (blk_ne BKg1.out BKg2.out (by decide)) _; (with_reducible repeat (first | refine blk_drewN ?_ _ | refine blk_drew ?_ | refine blk_alloc ?_ _)); exact BKg1.out⟩, ⟨by (with_reducible repeat (first | refine blk_drewN ?_ _ | refine blk_drew ?_ | refine blk_alloc ?_ _)); rw [EB.out]; exact blk_put BKg2.out 0 _ rfl⟩, ⟨(by repeat (first | (with_reducible first | exact HB.out | apply below_alloc | apply pw_below_drewN | apply below_drew1 | refine below_set ?_ GEg2.out) | exact HB.out))⟩⟩
        · obtain rfl : j = 4 := by omega
          have HP := Aside0.mk (date_Parse.In_end HJ.out.2 hj)
          clear hj hjm
          go_wp2
          go_roundg (3 - (0 + 1))
          case measure => have := HS.out.2.2.1; omega
          case rel => exact ⟨0 + 1, x, 0, 0, by simp, ⟨by omega, by omega, by omega, (by simpa [date_Parse.St] using HP.out)⟩, ⟨by (with_reducible repeat (first | refine blk_drewN ?_ _ | refine blk_drew ?_ | refine blk_alloc ?_ _)); exact BKg1.out⟩, ⟨by (with_reducible repeat (first | refine blk_drewN ?_ _ | refine blk_drew ?_ | refine blk_alloc ?_ _)); exact BKg2.out⟩, ⟨(by repeat (first | (with_reducible first | exact HB.out | apply below_alloc | apply pw_below_drewN | apply below_drew1) | exact HB.out))⟩⟩
    · have S0 := HS.out.2.2.2
      obtain ⟨sa, sb, sc⟩ : date_Parse.part a0 4 0 0 = some a ∧ b = 0 ∧ c = 0 := S0
      subst sb
      subst sc
      have HA := Aside0.mk sa
      clear sa
      go_wp2
      go_loopg [36] 2 (fun kq v36 w' => ∃ (j : Nat) (x : Int), v36 = .int .i64 j ∧ Aside0 (kq = 2 - j ∧ date_Parse.In a0 2 5 j x) ∧ Aside0 (w'.heap[g1]? = some (.cells #[.int .i64 0, .int .i64 0, .int .i64 0] 23 (0, 0))) ∧ Aside0 (w'.heap[g2]? = some (.cells #[.int .i64 (a), .int .i64 (x), .int .i64 (0)] 49 (0, 0))) ∧ Aside0 (Below w.heap.size w w'))
      case atStart => exact ⟨0, 0, rfl, ⟨rfl, by omega, rfl, by omega, by omega⟩, ⟨by (with_reducible repeat (first | refine blk_drewN ?_ _ | refine blk_drew ?_ | refine blk_alloc ?_ _)); exact BKg1.out⟩, ⟨by (with_reducible repeat (first | refine blk_drewN ?_ _ | refine blk_drew ?_ | refine blk_alloc ?_ _)); exact BKg2.out⟩, ⟨(by repeat (first | (with_reducible first | exact HB.out | apply below_alloc | apply pw_below_drewN | apply below_drew1) | exact HB.out))⟩⟩
      case round =>
        clear BKg1 BKg2 HB
        obtain ⟨j, x, rfl, HJ, BKg1, BKg2, HB⟩ := hrel
        have hjm := HJ.out.2.1
        by_cases hj : j < 2
        · have hjs : j < (a0.extract 5 7).size := by rw [ByteArray.size_extract]; omega
          have eb : bt a0 ((5 + j : Nat) : Int) = (((a0.extract 5 7)[j]'hjs).toNat : Int) := by rw [date_Parse.bt_nat a0 (5 + j) (by omega), ByteArray.getElem_extract]
          have hx0 := HJ.out.2.2.2.1
          have hx1 : x < 10000 := date_Parse.In_bound HJ.out.2 (by omega)
          have hcg1_0 : wr.cell? ⟨g1, 0, none⟩ = some (.int .i64 (0)) := (blk_cell BKg1.out 0).trans rfl; have hcg1_1 : wr.cell? ⟨g1, 1, none⟩ = some (.int .i64 (0)) := (blk_cell BKg1.out 1).trans rfl; have hcg1_2 : wr.cell? ⟨g1, 2, none⟩ = some (.int .i64 (0)) := (blk_cell BKg1.out 2).trans rfl; have hfg1_0 := blk_frozen BKg1.out 0; have hfg1_1 := blk_frozen BKg1.out 1; have hfg1_2 := blk_frozen BKg1.out 2
          have hcg2_0 : wr.cell? ⟨g2, 0, none⟩ = some (.int .i64 (a)) := (blk_cell BKg2.out 0).trans rfl; have hcg2_1 : wr.cell? ⟨g2, 1, none⟩ = some (.int .i64 (x)) := (blk_cell BKg2.out 1).trans rfl; have hcg2_2 : wr.cell? ⟨g2, 2, none⟩ = some (.int .i64 (0)) := (blk_cell BKg2.out 2).trans rfl; have hfg2_0 := blk_frozen BKg2.out 0; have hfg2_1 := blk_frozen BKg2.out 1; have hfg2_2 := blk_frozen BKg2.out 2
          have EB := Aside0.mk eb
          clear hjm
          by_cases hd1 : bt a0 ((5 + j : Nat) : Int) < 48
          · have hd1b : decide ((((a0.extract 5 7)[j]'hjs).toNat : Int) < 48) = true := by rw [← eb]; simpa using hd1
            clear eb
            have HD := Aside0.mk hd1
            clear hd1
            go_wp2
            refine bodyPost_ret (results_ct rfl _ _ g1 23 #[.int .i64 0, .int .i64 0, .int .i64 0] (0, 0) _ rfl (by (with_reducible repeat (first | refine blk_drewN ?_ _ | refine blk_drew ?_ | refine blk_alloc ?_ _)); refine blk_put (cs := #[.int .i64 0, .int .i64 0, .int .i64 0]) ?_ 2 _ rfl; (with_reducible repeat (first | refine blk_drewN ?_ _ | refine blk_drew ?_ | refine blk_alloc ?_ _)); refine blk_put (cs := #[.int .i64 0, .int .i64 0, .int .i64 0]) ?_ 1 _ rfl; (with_reducible repeat (first | refine blk_drewN ?_ _ | refine blk_drew ?_ | refine blk_alloc ?_ _)); refine blk_put (cs := #[.int .i64 0, .int .i64 0, .int .i64 0]) ?_ 0 _ rfl; (with_reducible repeat (first | refine blk_drewN ?_ _ | refine blk_drew ?_ | refine blk_alloc ?_ _)); exact BKg1.out) Try.underlying23 rfl (by kernel_rfl)) rfl ?_
            have HN := date_Parse.In_bad HJ.out.2 hj (Or.inl HD.out)
            have HR := date_Parse.bad_5 k a0 h1 H2.out H3.out HA.out trivial HN
            rw [HR] at H
            obtain ⟨rfl, rfl, rfl, rfl⟩ := date_Parse.some4 H.out
            exact ⟨by first | rfl | (simp; done), (by repeat (first | (with_reducible first | exact HB.out | apply below_alloc | apply pw_below_drewN | apply below_drew1 | refine below_set ?_ GEg1.out) | exact HB.out))⟩
          · by_cases hd2 : bt a0 ((5 + j : Nat) : Int) > 57
            · have hd1b : decide ((((a0.extract 5 7)[j]'hjs).toNat : Int) < 48) = false := by rw [← eb]; simpa using hd1
              have hd2b : decide (57 < (((a0.extract 5 7)[j]'hjs).toNat : Int)) = true := by rw [← eb]; simpa using hd2
              clear eb
              have HD := Aside0.mk hd2
              clear hd1 hd2
              go_wp2
              refine bodyPost_ret (results_ct rfl _ _ g1 23 #[.int .i64 0, .int .i64 0, .int .i64 0] (0, 0) _ rfl (by (with_reducible repeat (first | refine blk_drewN ?_ _ | refine blk_drew ?_ | refine blk_alloc ?_ _)); refine blk_put (cs := #[.int .i64 0, .int .i64 0, .int .i64 0]) ?_ 2 _ rfl; (with_reducible repeat (first | refine blk_drewN ?_ _ | refine blk_drew ?_ | refine blk_alloc ?_ _)); refine blk_put (cs := #[.int .i64 0, .int .i64 0, .int .i64 0]) ?_ 1 _ rfl; (with_reducible repeat (first | refine blk_drewN ?_ _ | refine blk_drew ?_ | refine blk_alloc ?_ _)); refine blk_put (cs := #[.int .i64 0, .int .i64 0, .int .i64 0]) ?_ 0 _ rfl; (with_reducible repeat (first | refine blk_drewN ?_ _ | refine blk_drew ?_ | refine blk_alloc ?_ _)); exact BKg1.out) Try.underlying23 rfl (by kernel_rfl)) rfl ?_
              have HN := date_Parse.In_bad HJ.out.2 hj (Or.inr HD.out)
              have HR := date_Parse.bad_5 k a0 h1 H2.out H3.out HA.out trivial HN
              rw [HR] at H
              obtain ⟨rfl, rfl, rfl, rfl⟩ := date_Parse.some4 H.out
              exact ⟨by first | rfl | (simp; done), (by repeat (first | (with_reducible first | exact HB.out | apply below_alloc | apply pw_below_drewN | apply below_drew1 | refine below_set ?_ GEg1.out) | exact HB.out))⟩
            · have hd1b : decide ((((a0.extract 5 7)[j]'hjs).toNat : Int) < 48) = false := by rw [← eb]; simpa using hd1
              have hd2b : decide (57 < (((a0.extract 5 7)[j]'hjs).toNat : Int)) = false := by rw [← eb]; simpa using hd2
              have hlo : 48 ≤ (((a0.extract 5 7)[j]'hjs).toNat : Int) := by omega
              have hhi : (((a0.extract 5 7)[j]'hjs).toNat : Int) ≤ 57 := by omega
              clear eb
              have HD := Aside0.mk (show 48 ≤ bt a0 ((5 + j : Nat) : Int) ∧ bt a0 ((5 + j : Nat) : Int) ≤ 57 by omega)
              clear hd1 hd2
              go_wp2
              go_region
              go_wp2
              go_roundg (2 - (j + 1))
              case measure => have := HJ.out.1; omega
              case rel => exact ⟨j + 1, 10 * x + (bt a0 ((5 + j : Nat) : Int) - 48), by simp, ⟨by omega, date_Parse.In_step HJ.out.2 hj HD.out.1 HD.out.2⟩, ⟨by (with_reducible repeat (first | refine blk_drewN ?_ _ | refine blk_drew ?_ | refine blk_alloc ?_ _)); refine blk_far ?_ (blk_ne BKg1.out BKg2.out (by decide)) _; (with_reducible repeat (first | refine blk_drewN ?_ _ | refine blk_drew ?_ | refine blk_alloc ?_ _)); exact BKg1.out⟩, ⟨by (with_reducible repeat (first | refine blk_drewN ?_ _ | refine blk_drew ?_ | refine blk_alloc ?_ _)); rw [EB.out]; exact blk_put BKg2.out 1 _ rfl⟩, ⟨(by repeat (first | (with_reducible first | exact HB.out | apply below_alloc | apply pw_below_drewN | apply below_drew1 | refine below_set ?_ GEg2.out) | exact HB.out))⟩⟩
        · obtain rfl : j = 2 := by omega
          have HP := Aside0.mk (date_Parse.In_end HJ.out.2 hj)
          clear hj hjm
          go_wp2
          go_roundg (3 - (1 + 1))
          case measure => have := HS.out.2.2.1; omega
          case rel => exact ⟨1 + 1, a, x, 0, by simp, ⟨by omega, by omega, by omega, (by simpa [date_Parse.St] using And.intro HA.out HP.out)⟩, ⟨by (with_reducible repeat (first | refine blk_drewN ?_ _ | refine blk_drew ?_ | refine blk_alloc ?_ _)); exact BKg1.out⟩, ⟨by (with_reducible repeat (first | refine blk_drewN ?_ _ | refine blk_drew ?_ | refine blk_alloc ?_ _)); exact BKg2.out⟩, ⟨(by repeat (first | (with_reducible first | exact HB.out | apply below_alloc | apply pw_below_drewN | apply below_drew1) | exact HB.out))⟩⟩
    · have S0 := HS.out.2.2.2
      obtain ⟨sa, sb, sc⟩ : date_Parse.part a0 4 0 0 = some a ∧ date_Parse.part a0 2 5 0 = some b ∧ c = 0 := S0
      subst sc
      have HA := Aside0.mk sa
      have HC := Aside0.mk sb
      clear sa sb
      go_wp2
      go_loopg [36] 2 (fun kq v36 w' => ∃ (j : Nat) (x : Int), v36 = .int .i64 j ∧ Aside0 (kq = 2 - j ∧ date_Parse.In a0 2 8 j x) ∧ Aside0 (w'.heap[g1]? = some (.cells #[.int .i64 0, .int .i64 0, .int .i64 0] 23 (0, 0))) ∧ Aside0 (w'.heap[g2]? = some (.cells #[.int .i64 (a), .int .i64 (b), .int .i64 (x)] 49 (0, 0))) ∧ Aside0 (Below w.heap.size w w'))
      case atStart => exact ⟨0, 0, rfl, ⟨rfl, by omega, rfl, by omega, by omega⟩, ⟨by (with_reducible repeat (first | refine blk_drewN ?_ _ | refine blk_drew ?_ | refine blk_alloc ?_ _)); exact BKg1.out⟩, ⟨by (with_reducible repeat (first | refine blk_drewN ?_ _ | refine blk_drew ?_ | refine blk_alloc ?_ _)); exact BKg2.out⟩, ⟨(by repeat (first | (with_reducible first | exact HB.out | apply below_alloc | apply pw_below_drewN | apply below_drew1) | exact HB.out))⟩⟩
      case round =>
        clear BKg1 BKg2 HB
        obtain ⟨j, x, rfl, HJ, BKg1, BKg2, HB⟩ := hrel
        have hjm := HJ.out.2.1
        by_cases hj : j < 2
        · have hjs : j < (a0.extract 8 10).size := by rw [ByteArray.size_extract]; omega
          have eb : bt a0 ((8 + j : Nat) : Int) = (((a0.extract 8 10)[j]'hjs).toNat : Int) := by rw [date_Parse.bt_nat a0 (8 + j) (by omega), ByteArray.getElem_extract]
          have hx0 := HJ.out.2.2.2.1
          have hx1 : x < 10000 := date_Parse.In_bound HJ.out.2 (by omega)
          have hcg1_0 : wr.cell? ⟨g1, 0, none⟩ = some (.int .i64 (0)) := (blk_cell BKg1.out 0).trans rfl; have hcg1_1 : wr.cell? ⟨g1, 1, none⟩ = some (.int .i64 (0)) := (blk_cell BKg1.out 1).trans rfl; have hcg1_2 : wr.cell? ⟨g1, 2, none⟩ = some (.int .i64 (0)) := (blk_cell BKg1.out 2).trans rfl; have hfg1_0 := blk_frozen BKg1.out 0; have hfg1_1 := blk_frozen BKg1.out 1; have hfg1_2 := blk_frozen BKg1.out 2
          have hcg2_0 : wr.cell? ⟨g2, 0, none⟩ = some (.int .i64 (a)) := (blk_cell BKg2.out 0).trans rfl; have hcg2_1 : wr.cell? ⟨g2, 1, none⟩ = some (.int .i64 (b)) := (blk_cell BKg2.out 1).trans rfl; have hcg2_2 : wr.cell? ⟨g2, 2, none⟩ = some (.int .i64 (x)) := (blk_cell BKg2.out 2).trans rfl; have hfg2_0 := blk_frozen BKg2.out 0; have hfg2_1 := blk_frozen BKg2.out 1; have hfg2_2 := blk_frozen BKg2.out 2
          have EB := Aside0.mk eb
          clear hjm
          by_cases hd1 : bt a0 ((8 + j : Nat) : Int) < 48
          · have hd1b : decide ((((a0.extract 8 10)[j]'hjs).toNat : Int) < 48) = true := by rw [← eb]; simpa using hd1
            clear eb
            have HD := Aside0.mk hd1
            clear hd1
            go_wp2
            refine bodyPost_ret (results_ct rfl _ _ g1 23 #[.int .i64 0, .int .i64 0, .int .i64 0] (0, 0) _ rfl (by (with_reducible repeat (first | refine blk_drewN ?_ _ | refine blk_drew ?_ | refine blk_alloc ?_ _)); refine blk_put (cs := #[.int .i64 0, .int .i64 0, .int .i64 0]) ?_ 2 _ rfl; (with_reducible repeat (first | refine blk_drewN ?_ _ | refine blk_drew ?_ | refine blk_alloc ?_ _)); refine blk_put (cs := #[.int .i64 0, .int .i64 0, .int .i64 0]) ?_ 1 _ rfl; (with_reducible repeat (first | refine blk_drewN ?_ _ | refine blk_drew ?_ | refine blk_alloc ?_ _)); refine blk_put (cs := #[.int .i64 0, .int .i64 0, .int .i64 0]) ?_ 0 _ rfl; (with_reducible repeat (first | refine blk_drewN ?_ _ | refine blk_drew ?_ | refine blk_alloc ?_ _)); exact BKg1.out) Try.underlying23 rfl (by kernel_rfl)) rfl ?_
            have HN := date_Parse.In_bad HJ.out.2 hj (Or.inl HD.out)
            have HR := date_Parse.bad_8 k a0 h1 H2.out H3.out HA.out HC.out HN
            rw [HR] at H
            obtain ⟨rfl, rfl, rfl, rfl⟩ := date_Parse.some4 H.out
            exact ⟨by first | rfl | (simp; done), (by repeat (first | (with_reducible first | exact HB.out | apply below_alloc | apply pw_below_drewN | apply below_drew1 | refine below_set ?_ GEg1.out) | exact HB.out))⟩
          · by_cases hd2 : bt a0 ((8 + j : Nat) : Int) > 57
            · have hd1b : decide ((((a0.extract 8 10)[j]'hjs).toNat : Int) < 48) = false := by rw [← eb]; simpa using hd1
              have hd2b : decide (57 < (((a0.extract 8 10)[j]'hjs).toNat : Int)) = true := by rw [← eb]; simpa using hd2
              clear eb
              have HD := Aside0.mk hd2
              clear hd1 hd2
              go_wp2
              refine bodyPost_ret (results_ct rfl _ _ g1 23 #[.int .i64 0, .int .i64 0, .int .i64 0] (0, 0) _ rfl (by (with_reducible repeat (first | refine blk_drewN ?_ _ | refine blk_drew ?_ | refine blk_alloc ?_ _)); refine blk_put (cs := #[.int .i64 0, .int .i64 0, .int .i64 0]) ?_ 2 _ rfl; (with_reducible repeat (first | refine blk_drewN ?_ _ | refine blk_drew ?_ | refine blk_alloc ?_ _)); refine blk_put (cs := #[.int .i64 0, .int .i64 0, .int .i64 0]) ?_ 1 _ rfl; (with_reducible repeat (first | refine blk_drewN ?_ _ | refine blk_drew ?_ | refine blk_alloc ?_ _)); refine blk_put (cs := #[.int .i64 0, .int .i64 0, .int .i64 0]) ?_ 0 _ rfl; (with_reducible repeat (first | refine blk_drewN ?_ _ | refine blk_drew ?_ | refine blk_alloc ?_ _)); exact BKg1.out) Try.underlying23 rfl (by kernel_rfl)) rfl ?_
              have HN := date_Parse.In_bad HJ.out.2 hj (Or.inr HD.out)
              have HR := date_Parse.bad_8 k a0 h1 H2.out H3.out HA.out HC.out HN
              rw [HR] at H
              obtain ⟨rfl, rfl, rfl, rfl⟩ := date_Parse.some4 H.out
              exact ⟨by first | rfl | (simp; done), (by repeat (first | (with_reducible first | exact HB.out | apply below_alloc | apply pw_below_drewN | apply below_drew1 | refine below_set ?_ GEg1.out) | exact HB.out))⟩
            · have hd1b : decide ((((a0.extract 8 10)[j]'hjs).toNat : Int) < 48) = false := by rw [← eb]; simpa using hd1
              have hd2b : decide (57 < (((a0.extract 8 10)[j]'hjs).toNat : Int)) = false := by rw [← eb]; simpa using hd2
              have hlo : 48 ≤ (((a0.extract 8 10)[j]'hjs).toNat : Int) := by omega
              have hhi : (((a0.extract 8 10)[j]'hjs).toNat : Int) ≤ 57 := by omega
              clear eb
              have HD := Aside0.mk (show 48 ≤ bt a0 ((8 + j : Nat) : Int) ∧ bt a0 ((8 + j : Nat) : Int) ≤ 57 by omega)
              clear hd1 hd2
              go_wp2
              go_region
              go_wp2
              go_roundg (2 - (j + 1))
              case measure => have := HJ.out.1; omega
              case rel => exact ⟨j + 1, 10 * x + (bt a0 ((8 + j : Nat) : Int) - 48), by simp, ⟨by omega, date_Parse.In_step HJ.out.2 hj HD.out.1 HD.out.2⟩, ⟨by (with_reducible repeat (first | refine blk_drewN ?_ _ | refine blk_drew ?_ | refine blk_alloc ?_ _)); refine blk_far ?_ (blk_ne BKg1.out BKg2.out (by decide)) _; (with_reducible repeat (first | refine blk_drewN ?_ _ | refine blk_drew ?_ | refine blk_alloc ?_ _)); exact BKg1.out⟩, ⟨by (with_reducible repeat (first | refine blk_drewN ?_ _ | refine blk_drew ?_ | refine blk_alloc ?_ _)); rw [EB.out]; exact blk_put BKg2.out 2 _ rfl⟩, ⟨(by repeat (first | (with_reducible first | exact HB.out | apply below_alloc | apply pw_below_drewN | apply below_drew1 | refine below_set ?_ GEg2.out) | exact HB.out))⟩⟩
        · obtain rfl : j = 2 := by omega
          have HP := Aside0.mk (date_Parse.In_end HJ.out.2 hj)
          clear hj hjm
          go_wp2
          go_roundg (3 - (2 + 1))
          case measure => have := HS.out.2.2.1; omega
          case rel => exact ⟨2 + 1, a, b, x, by simp, ⟨by omega, by omega, by omega, (by simpa [date_Parse.St] using And.intro HA.out (And.intro HC.out HP.out))⟩, ⟨by (with_reducible repeat (first | refine blk_drewN ?_ _ | refine blk_drew ?_ | refine blk_alloc ?_ _)); exact BKg1.out⟩, ⟨by (with_reducible repeat (first | refine blk_drewN ?_ _ | refine blk_drew ?_ | refine blk_alloc ?_ _)); exact BKg2.out⟩, ⟨(by repeat (first | (with_reducible first | exact HB.out | apply below_alloc | apply pw_below_drewN | apply below_drew1) | exact HB.out))⟩⟩
    · have S0 := HS.out.2.2.2
      obtain ⟨sa, sb, sc⟩ : date_Parse.part a0 4 0 0 = some a ∧ date_Parse.part a0 2 5 0 = some b ∧ date_Parse.part a0 2 8 0 = some c := S0
      have HG := date_Parse.good k a0 h1 H2.out H3.out sa sb sc
      rw [HG] at H
      obtain ⟨t, ht, hr⟩ := Option.bind_eq_some_iff.mp H.out
      have HT := Aside0.mk ht
      clear sa sb sc HG H ht
      have hcg1_0 : wr.cell? ⟨g1, 0, none⟩ = some (.int .i64 (0)) := (blk_cell BKg1.out 0).trans rfl; have hcg1_1 : wr.cell? ⟨g1, 1, none⟩ = some (.int .i64 (0)) := (blk_cell BKg1.out 1).trans rfl; have hcg1_2 : wr.cell? ⟨g1, 2, none⟩ = some (.int .i64 (0)) := (blk_cell BKg1.out 2).trans rfl; have hfg1_0 := blk_frozen BKg1.out 0; have hfg1_1 := blk_frozen BKg1.out 1; have hfg1_2 := blk_frozen BKg1.out 2
      have hcg2_0 : wr.cell? ⟨g2, 0, none⟩ = some (.int .i64 (a)) := (blk_cell BKg2.out 0).trans rfl; have hcg2_1 : wr.cell? ⟨g2, 1, none⟩ = some (.int .i64 (b)) := (blk_cell BKg2.out 1).trans rfl; have hcg2_2 : wr.cell? ⟨g2, 2, none⟩ = some (.int .i64 (c)) := (blk_cell BKg2.out 2).trans rfl; have hfg2_0 := blk_frozen BKg2.out 0; have hfg2_1 := blk_frozen BKg2.out 1; have hfg2_2 := blk_frozen BKg2.out 2
      cases t with
      | true =>
        simp only [if_true] at hr
        have HR := Aside0.mk hr
        clear hr
        go_wp2_with (first | ((with_reducible refine gate_dst (N := 8) rfl ?_); refine box_event ?hg (N := 8) ?hd (cs := #[.int .i64 0, .int .i64 0, .int .i64 0]) (t := 23) ?hr ?_; (case hd => rfl); (case hg => rfl); (case hr => first | (go_simp; done) | (go_simp; rfl)); intro g3 hg w5 hbox hb; have n4_ := Aside0.mk (blk_below (g := g1) (o := .cells #[.int .i64 0, .int .i64 0, .int .i64 0] 23 (0, 0)) (by (with_reducible repeat (first | refine blk_drewN ?_ _ | refine blk_drew ?_ | refine blk_alloc ?_ _)); exact BKg1.out) hb); have n5_ := Aside0.mk (show g1 ≠ g3 by rw [hg]; exact Nat.ne_of_lt (blk_lt (o := .cells #[.int .i64 0, .int .i64 0, .int .i64 0] 23 (0, 0)) (by (with_reducible repeat (first | refine blk_drewN ?_ _ | refine blk_drew ?_ | refine blk_alloc ?_ _)); exact BKg1.out))); have n0_ := Aside0.mk (below_step (by repeat (first | (with_reducible first | exact HB.out | apply below_alloc | apply pw_below_drewN | apply below_drew1) | exact HB.out)) hb); have n1_ := Aside0.mk (hbox); have n2_ := Aside0.mk ((by rw [hg]; exact (below_size (by repeat (first | (with_reducible first | exact HB.out | apply below_alloc | apply pw_below_drewN | apply below_drew1) | exact HB.out)))) : w.heap.size ≤ g3); clear HB; have HB := n0_; have BKg3 := n1_; have GEg3 := n2_; clear n0_ n1_ n2_; clear hb hbox hg; clear BKg1 BKg2 hcg1_0 hcg1_1 hcg1_2 hfg1_0 hfg1_1 hfg1_2 hcg2_0 hcg2_1 hcg2_2 hfg2_0 hfg2_1 hfg2_2; have BKg1 := n4_; have NB := n5_; clear n4_ n5_; have hcg1_0 : w5.cell? ⟨g1, 0, none⟩ = some (.int .i64 (0)) := (blk_cell BKg1.out 0).trans rfl; have hcg1_1 : w5.cell? ⟨g1, 1, none⟩ = some (.int .i64 (0)) := (blk_cell BKg1.out 1).trans rfl; have hcg1_2 : w5.cell? ⟨g1, 2, none⟩ = some (.int .i64 (0)) := (blk_cell BKg1.out 2).trans rfl; have hfg1_0 := blk_frozen BKg1.out 0; have hfg1_1 := blk_frozen BKg1.out 1; have hfg1_2 := blk_frozen BKg1.out 2; have hcg3_0 : w5.cell? ⟨g3, 0, none⟩ = some (.int .i64 (0)) := (blk_cell BKg3.out 0).trans rfl; have hcg3_1 : w5.cell? ⟨g3, 1, none⟩ = some (.int .i64 (0)) := (blk_cell BKg3.out 1).trans rfl; have hcg3_2 : w5.cell? ⟨g3, 2, none⟩ = some (.int .i64 (0)) := (blk_cell BKg3.out 2).trans rfl; have hfg3_0 := blk_frozen BKg3.out 0; have hfg3_1 := blk_frozen BKg3.out 1; have hfg3_2 := blk_frozen BKg3.out 2) | (go_at_call 14; (with_reducible refine (date_Right.calls k a b c true _ HT.out).mono ?_); rintro e w6 ⟨rfl, hb⟩; have n0_ := Aside0.mk (blk_below (g := g1) (o := .cells #[.int .i64 0, .int .i64 0, .int .i64 0] 23 (0, 0)) (by (with_reducible repeat (first | refine blk_drewN ?_ _ | refine blk_drew ?_ | refine blk_alloc ?_ _)); refine blk_far ?_ NB.out _; (with_reducible repeat (first | refine blk_drewN ?_ _ | refine blk_drew ?_ | refine blk_alloc ?_ _)); refine blk_far ?_ NB.out _; (with_reducible repeat (first | refine blk_drewN ?_ _ | refine blk_drew ?_ | refine blk_alloc ?_ _)); refine blk_far ?_ NB.out _; (with_reducible repeat (first | refine blk_drewN ?_ _ | refine blk_drew ?_ | refine blk_alloc ?_ _)); exact BKg1.out) hb); have n1_ := Aside0.mk (blk_below (g := g3) (o := .cells #[.int .i64 a, .int .i64 b, .int .i64 c] 23 (0, 0)) (by (with_reducible repeat (first | refine blk_drewN ?_ _ | refine blk_drew ?_ | refine blk_alloc ?_ _)); refine blk_put (cs := #[.int .i64 a, .int .i64 b, .int .i64 0]) ?_ 2 _ rfl; (with_reducible repeat (first | refine blk_drewN ?_ _ | refine blk_drew ?_ | refine blk_alloc ?_ _)); refine blk_put (cs := #[.int .i64 a, .int .i64 0, .int .i64 0]) ?_ 1 _ rfl; (with_reducible repeat (first | refine blk_drewN ?_ _ | refine blk_drew ?_ | refine blk_alloc ?_ _)); refine blk_put (cs := #[.int .i64 0, .int .i64 0, .int .i64 0]) ?_ 0 _ rfl; (with_reducible repeat (first | refine blk_drewN ?_ _ | refine blk_drew ?_ | refine blk_alloc ?_ _)); exact BKg3.out) hb); have n2_ := Aside0.mk (below_step (by repeat (first | (with_reducible first | exact HB.out | apply below_alloc | apply pw_below_drewN | apply below_drew1 | refine below_set ?_ GEg3.out) | exact HB.out)) hb); clear BKg1 BKg3 HB hcg1_0 hcg1_1 hcg1_2 hfg1_0 hfg1_1 hfg1_2 hcg3_0 hcg3_1 hcg3_2 hfg3_0 hfg3_1 hfg3_2; have BKg1 := n0_; have BKg3 := n1_; have HB := n2_; clear n0_ n1_ n2_ hb; have hcg1_0 : w6.cell? ⟨g1, 0, none⟩ = some (.int .i64 (0)) := (blk_cell BKg1.out 0).trans rfl; have hcg1_1 : w6.cell? ⟨g1, 1, none⟩ = some (.int .i64 (0)) := (blk_cell BKg1.out 1).trans rfl; have hcg1_2 : w6.cell? ⟨g1, 2, none⟩ = some (.int .i64 (0)) := (blk_cell BKg1.out 2).trans rfl; have hfg1_0 := blk_frozen BKg1.out 0; have hfg1_1 := blk_frozen BKg1.out 1; have hfg1_2 := blk_frozen BKg1.out 2; have hcg3_0 : w6.cell? ⟨g3, 0, none⟩ = some (.int .i64 (a)) := (blk_cell BKg3.out 0).trans rfl; have hcg3_1 : w6.cell? ⟨g3, 1, none⟩ = some (.int .i64 (b)) := (blk_cell BKg3.out 1).trans rfl; have hcg3_2 : w6.cell? ⟨g3, 2, none⟩ = some (.int .i64 (c)) := (blk_cell BKg3.out 2).trans rfl; have hfg3_0 := blk_frozen BKg3.out 0; have hfg3_1 := blk_frozen BKg3.out 1; have hfg3_2 := blk_frozen BKg3.out 2))
        refine bodyPost_ret (results_ct rfl _ _ g1 23 #[.int .i64 a, .int .i64 b, .int .i64 c] (0, 0) _ rfl (by (with_reducible repeat (first | refine blk_drewN ?_ _ | refine blk_drew ?_ | refine blk_alloc ?_ _)); refine blk_put (cs := #[.int .i64 a, .int .i64 b, .int .i64 0]) ?_ 2 _ rfl; (with_reducible repeat (first | refine blk_drewN ?_ _ | refine blk_drew ?_ | refine blk_alloc ?_ _)); refine blk_put (cs := #[.int .i64 a, .int .i64 0, .int .i64 0]) ?_ 1 _ rfl; (with_reducible repeat (first | refine blk_drewN ?_ _ | refine blk_drew ?_ | refine blk_alloc ?_ _)); refine blk_put (cs := #[.int .i64 0, .int .i64 0, .int .i64 0]) ?_ 0 _ rfl; (with_reducible repeat (first | refine blk_drewN ?_ _ | refine blk_drew ?_ | refine blk_alloc ?_ _)); exact BKg1.out) Try.underlying23 rfl (by kernel_rfl)) rfl ?_
        obtain ⟨rfl, rfl, rfl, rfl⟩ := date_Parse.some4 HR.out
        exact ⟨by first | rfl | (simp; done), (by repeat (first | (with_reducible first | exact HB.out | apply below_alloc | apply pw_below_drewN | apply below_drew1 | refine below_set ?_ GEg1.out) | exact HB.out))⟩
      | false =>
        simp only [Bool.false_eq_true, if_false] at hr
        have HR := Aside0.mk hr
        clear hr
        go_wp2_with (first | ((with_reducible refine gate_dst (N := 8) rfl ?_); refine box_event ?hg (N := 8) ?hd (cs := #[.int .i64 0, .int .i64 0, .int .i64 0]) (t := 23) ?hr ?_; (case hd => rfl); (case hg => rfl); (case hr => first | (go_simp; done) | (go_simp; rfl)); intro g3 hg w5 hbox hb; have n4_ := Aside0.mk (blk_below (g := g1) (o := .cells #[.int .i64 0, .int .i64 0, .int .i64 0] 23 (0, 0)) (by (with_reducible repeat (first | refine blk_drewN ?_ _ | refine blk_drew ?_ | refine blk_alloc ?_ _)); exact BKg1.out) hb); have n5_ := Aside0.mk (show g1 ≠ g3 by rw [hg]; exact Nat.ne_of_lt (blk_lt (o := .cells #[.int .i64 0, .int .i64 0, .int .i64 0] 23 (0, 0)) (by (with_reducible repeat (first | refine blk_drewN ?_ _ | refine blk_drew ?_ | refine blk_alloc ?_ _)); exact BKg1.out))); have n0_ := Aside0.mk (below_step (by repeat (first | (with_reducible first | exact HB.out | apply below_alloc | apply pw_below_drewN | apply below_drew1) | exact HB.out)) hb); have n1_ := Aside0.mk (hbox); have n2_ := Aside0.mk ((by rw [hg]; exact (below_size (by repeat (first | (with_reducible first | exact HB.out | apply below_alloc | apply pw_below_drewN | apply below_drew1) | exact HB.out)))) : w.heap.size ≤ g3); clear HB; have HB := n0_; have BKg3 := n1_; have GEg3 := n2_; clear n0_ n1_ n2_; clear hb hbox hg; clear BKg1 BKg2 hcg1_0 hcg1_1 hcg1_2 hfg1_0 hfg1_1 hfg1_2 hcg2_0 hcg2_1 hcg2_2 hfg2_0 hfg2_1 hfg2_2; have BKg1 := n4_; have NB := n5_; clear n4_ n5_; have hcg1_0 : w5.cell? ⟨g1, 0, none⟩ = some (.int .i64 (0)) := (blk_cell BKg1.out 0).trans rfl; have hcg1_1 : w5.cell? ⟨g1, 1, none⟩ = some (.int .i64 (0)) := (blk_cell BKg1.out 1).trans rfl; have hcg1_2 : w5.cell? ⟨g1, 2, none⟩ = some (.int .i64 (0)) := (blk_cell BKg1.out 2).trans rfl; have hfg1_0 := blk_frozen BKg1.out 0; have hfg1_1 := blk_frozen BKg1.out 1; have hfg1_2 := blk_frozen BKg1.out 2; have hcg3_0 : w5.cell? ⟨g3, 0, none⟩ = some (.int .i64 (0)) := (blk_cell BKg3.out 0).trans rfl; have hcg3_1 : w5.cell? ⟨g3, 1, none⟩ = some (.int .i64 (0)) := (blk_cell BKg3.out 1).trans rfl; have hcg3_2 : w5.cell? ⟨g3, 2, none⟩ = some (.int .i64 (0)) := (blk_cell BKg3.out 2).trans rfl; have hfg3_0 := blk_frozen BKg3.out 0; have hfg3_1 := blk_frozen BKg3.out 1; have hfg3_2 := blk_frozen BKg3.out 2) | (go_at_call 14; (with_reducible refine (date_Right.calls k a b c false _ HT.out).mono ?_); rintro e w6 ⟨rfl, hb⟩; have n0_ := Aside0.mk (blk_below (g := g1) (o := .cells #[.int .i64 0, .int .i64 0, .int .i64 0] 23 (0, 0)) (by (with_reducible repeat (first | refine blk_drewN ?_ _ | refine blk_drew ?_ | refine blk_alloc ?_ _)); refine blk_far ?_ NB.out _; (with_reducible repeat (first | refine blk_drewN ?_ _ | refine blk_drew ?_ | refine blk_alloc ?_ _)); refine blk_far ?_ NB.out _; (with_reducible repeat (first | refine blk_drewN ?_ _ | refine blk_drew ?_ | refine blk_alloc ?_ _)); refine blk_far ?_ NB.out _; (with_reducible repeat (first | refine blk_drewN ?_ _ | refine blk_drew ?_ | refine blk_alloc ?_ _)); exact BKg1.out) hb); have n1_ := Aside0.mk (blk_below (g := g3) (o := .cells #[.int .i64 a, .int .i64 b, .int .i64 c] 23 (0, 0)) (by (with_reducible repeat (first | refine blk_drewN ?_ _ | refine blk_drew ?_ | refine blk_alloc ?_ _)); refine blk_put (cs := #[.int .i64 a, .int .i64 b, .int .i64 0]) ?_ 2 _ rfl; (with_reducible repeat (first | refine blk_drewN ?_ _ | refine blk_drew ?_ | refine blk_alloc ?_ _)); refine blk_put (cs := #[.int .i64 a, .int .i64 0, .int .i64 0]) ?_ 1 _ rfl; (with_reducible repeat (first | refine blk_drewN ?_ _ | refine blk_drew ?_ | refine blk_alloc ?_ _)); refine blk_put (cs := #[.int .i64 0, .int .i64 0, .int .i64 0]) ?_ 0 _ rfl; (with_reducible repeat (first | refine blk_drewN ?_ _ | refine blk_drew ?_ | refine blk_alloc ?_ _)); exact BKg3.out) hb); have n2_ := Aside0.mk (below_step (by repeat (first | (with_reducible first | exact HB.out | apply below_alloc | apply pw_below_drewN | apply below_drew1 | refine below_set ?_ GEg3.out) | exact HB.out)) hb); clear BKg1 BKg3 HB hcg1_0 hcg1_1 hcg1_2 hfg1_0 hfg1_1 hfg1_2 hcg3_0 hcg3_1 hcg3_2 hfg3_0 hfg3_1 hfg3_2; have BKg1 := n0_; have BKg3 := n1_; have HB := n2_; clear n0_ n1_ n2_ hb; have hcg1_0 : w6.cell? ⟨g1, 0, none⟩ = some (.int .i64 (0)) := (blk_cell BKg1.out 0).trans rfl; have hcg1_1 : w6.cell? ⟨g1, 1, none⟩ = some (.int .i64 (0)) := (blk_cell BKg1.out 1).trans rfl; have hcg1_2 : w6.cell? ⟨g1, 2, none⟩ = some (.int .i64 (0)) := (blk_cell BKg1.out 2).trans rfl; have hfg1_0 := blk_frozen BKg1.out 0; have hfg1_1 := blk_frozen BKg1.out 1; have hfg1_2 := blk_frozen BKg1.out 2; have hcg3_0 : w6.cell? ⟨g3, 0, none⟩ = some (.int .i64 (a)) := (blk_cell BKg3.out 0).trans rfl; have hcg3_1 : w6.cell? ⟨g3, 1, none⟩ = some (.int .i64 (b)) := (blk_cell BKg3.out 1).trans rfl; have hcg3_2 : w6.cell? ⟨g3, 2, none⟩ = some (.int .i64 (c)) := (blk_cell BKg3.out 2).trans rfl; have hfg3_0 := blk_frozen BKg3.out 0; have hfg3_1 := blk_frozen BKg3.out 1; have hfg3_2 := blk_frozen BKg3.out 2))
        refine bodyPost_ret (results_ct rfl _ _ g1 23 #[.int .i64 0, .int .i64 0, .int .i64 0] (0, 0) _ rfl (by (with_reducible repeat (first | refine blk_drewN ?_ _ | refine blk_drew ?_ | refine blk_alloc ?_ _)); refine blk_put (cs := #[.int .i64 0, .int .i64 0, .int .i64 0]) ?_ 2 _ rfl; (with_reducible repeat (first | refine blk_drewN ?_ _ | refine blk_drew ?_ | refine blk_alloc ?_ _)); refine blk_put (cs := #[.int .i64 0, .int .i64 0, .int .i64 0]) ?_ 1 _ rfl; (with_reducible repeat (first | refine blk_drewN ?_ _ | refine blk_drew ?_ | refine blk_alloc ?_ _)); refine blk_put (cs := #[.int .i64 0, .int .i64 0, .int .i64 0]) ?_ 0 _ rfl; (with_reducible repeat (first | refine blk_drewN ?_ _ | refine blk_drew ?_ | refine blk_alloc ?_ _)); exact BKg1.out) Try.underlying23 rfl (by kernel_rfl)) rfl ?_
        obtain ⟨rfl, rfl, rfl, rfl⟩ := date_Parse.some4 HR.out
        exact ⟨by first | rfl | (simp; done), (by repeat (first | (with_reducible first | exact HB.out | apply below_alloc | apply pw_below_drewN | apply below_drew1 | refine below_set ?_ GEg1.out) | exact HB.out))⟩
theorem date_Parse.calls (k : Nat) (a0 : ByteArray) (r1 r2 r3 r4 : Int) (w : World) (h : date_Parse.f k a0 = some (r1, r2, r3, r4)) :
    Calls Try.prog 22 #[.string a0] w fun e w' => e = .returned (.tuple #[.agg #[.int .i64 r1, .int .i64 r2, .int .i64 r3], .int .i64 r4]) ∧ Below w.heap.size w w' := by
  by_cases hc : a0.size = 10 ∧ bt a0 4 = 45 ∧ bt a0 7 = 45
  · exact date_Parse.calls_yes k a0 r1 r2 r3 r4 w hc.1 hc.2.1 hc.2.2 h
  · have hf : date_Parse.f k a0 = some (0, 0, 0, 5) := by
      unfold date_Parse.f
      by_cases h1 : a0.size = 10
      · by_cases h2 : bt a0 4 = 45
        · rw [if_pos h1, if_pos h2, if_neg (fun h3 => hc ⟨h1, h2, h3⟩)]
        · rw [if_pos h1, if_neg h2]
      · rw [if_neg h1]
    rw [hf] at h
    obtain ⟨rfl, rfl, rfl, rfl⟩ := date_Parse.some4 h
    exact date_Parse.calls_no a0 w hc

end Go.Proofs.Ythfkfageehkhcaa.X
