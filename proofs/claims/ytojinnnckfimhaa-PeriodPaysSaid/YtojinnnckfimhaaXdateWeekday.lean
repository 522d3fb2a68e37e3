-- laid by the session's own program (xprint.py) out of Lean's print of the program; Lean checks it
import Derived.Test.YtojinnnckfimhaaX0
import Derived.Test.YtojinnnckfimhaaXperiodNominal
import Derived.Test.YtojinnnckfimhaaXdateAdd
namespace Go.Proofs.Ytojinnnckfimhaa.X
open Go.RowKit Go.Proofs.YtojinnnckfimhaaW.PrintWords Go.Proofs.YtojinnnckfimhaaW.PrintLast
set_option linter.unusedVariables false
set_option linter.unusedSimpArgs false

/-! ### date_Weekday: function 47 -/
def date_Weekday.f (k : Nat) (a0_0 : Int) (a0_1 : Int) (a0_2 : Int) : Option (Int × Int) := (date_Number.f k a0_0 a0_1 a0_2).bind fun bt901 => (some (Int.tmod bt901.1 7, bt901.2))
set_option maxHeartbeats 8000000 in
set_option maxRecDepth 100000 in
theorem date_Weekday.calls (k : Nat) (a0_0 : Int) (a0_1 : Int) (a0_2 : Int) (r1 : Int) (r2 : Int) (w : World) (h : date_Weekday.f k a0_0 a0_1 a0_2 = some (r1, r2)) :
  Calls Try.prog 47 #[.agg #[.int .i64 a0_0, .int .i64 a0_1, .int .i64 a0_2]] w fun e w' => e = .returned (.tuple #[.int .i64 r1, .int .i64 r2]) ∧ Below w.heap.size w w' := by
 have hu23 := Try.underlying23
 have HB := a0_ (Below.refl w.heap.size w)
 have H : ((date_Number.f k a0_0 a0_1 a0_2).bind fun bt901 => (some (Int.tmod bt901.1 7, bt901.2))) = some (r1, r2) := h
 clear h
 replace H := oB_ H
 obtain ⟨⟨t901, t902⟩, A20, H⟩ := H
 replace H : (some (Int.tmod t901 7, t902)) = some (r1, r2) := H
 have A2 := a0_ A20
 clear A20
 simp only [Option.some.injEq, Prod.mk.injEq] at H
 obtain ⟨rfl, rfl⟩ := H
 go_enter Try.func47, Try.ntmps47
 go_wp2_with (first | ((with_reducible refine gate_dst (N := 1) rfl ?_); refine box_event ?hg (N := 1) ?hd (cs := #[.int .i64 a0_0, .int .i64 a0_1, .int .i64 a0_2]) (t := 23) ?hr ?_; (case hd => rfl); (case hg => rfl); (case hr => first | (go_simp; done) | (go_simp; rfl)); intro gb900 hg w3 hbox hb; have n0_ := a0_ (below_step (by repeat (first | (with_reducible first | exact HB.out | apply lA_ | apply lN_ | apply lD_) | exact HB.out)) hb); have n1_ := a0_ (hbox); have n2_ := a0_ ((by rw [hg]; exact (below_size (by repeat (first | (with_reducible first | exact HB.out | apply lA_ | apply lN_ | apply lD_) | exact HB.out))) : w.heap.size ≤ gb900)); have n3_ := a0_ ((by rw [hg]; exact (below_size (by repeat (first | (with_reducible first | exact HB.out | apply lA_ | apply lN_ | apply lD_) | exact HB.out))) : w.heap.size ≤ gb900)); clear HB; have HB := n0_; have BK900 := n1_; have GW900 := n2_; have GE900 := n3_; clear n0_ n1_ n2_ n3_; clear hb hbox hg; have hcz4_0 : w3.cell? ⟨gb900, 0, none⟩ = some (.int .i64 a0_0) := (bC_ BK900.out 0).trans rfl; have hcz4_1 : w3.cell? ⟨gb900, 1, none⟩ = some (.int .i64 a0_1) := (bC_ BK900.out 1).trans rfl; have hcz4_2 : w3.cell? ⟨gb900, 2, none⟩ = some (.int .i64 a0_2) := (bC_ BK900.out 2).trans rfl; have hfz4_0 := bF_ BK900.out 0; have hfz4_1 := bF_ BK900.out 1; have hfz4_2 := bF_ BK900.out 2) | ((with_reducible refine gate_callee (f := 10) rfl ?_); refine goesL_ (some 8) rfl rfl Try.func10 (by kernel_rfl) rfl #[.agg #[.int .i64 a0_0, .int .i64 a0_1, .int .i64 a0_2]] rfl (by (try simp only [List.map_toArray, List.map_cons, List.map_nil]); first | done | rfl) ?_; (with_reducible refine (date_Number.calls k a0_0 a0_1 a0_2 t901 t902 _ A2.out).mono ?_); rintro e w5 ⟨rfl, hb⟩; refine ⟨_, rfl, ?_⟩; have n0_ := a0_ (bB_ (g := gb900) (o := .cells #[.int .i64 a0_0, .int .i64 a0_1, .int .i64 a0_2] 23 (0, 0)) (by (with_reducible repeat first | apply bN_ | apply bD_ | apply bA_); exact BK900.out) hb); have n1_ := a0_ (below_step (by repeat (first | (with_reducible first | exact HB.out | apply lA_ | apply lN_ | apply lD_ | refine lS_ ?_ GE900.out) | exact HB.out)) hb); clear BK900; clear HB; have BK900 := n0_; have HB := n1_; clear n0_ n1_; (try clear hb); (try clear hb2); (try clear hk); (try clear hi)))
 go_ret2
 exact ⟨by first | rfl | (simp [errW_none, errW_some] <;> rfl) | (simp [*, errW_none, errW_some] <;> rfl), by repeat (first | (with_reducible first | exact HB.out | apply lA_ | apply lN_ | apply lD_ | refine lS_ ?_ GE900.out) | exact HB.out)⟩

/-! ### date_Workday: function 34 -/
def date_Workday.f (k : Nat) (a0_0 : Int) (a0_1 : Int) (a0_2 : Int) : Option (Bool) := (date_Weekday.f k a0_0 a0_1 a0_2).bind fun bt904 => (if bt904.2 = 0 then (some (decide (bt904.1 < 5))) else (some false))
set_option maxHeartbeats 8000000 in
set_option maxRecDepth 100000 in
theorem date_Workday.calls (k : Nat) (a0_0 : Int) (a0_1 : Int) (a0_2 : Int) (r : Bool) (w : World) (h : date_Workday.f k a0_0 a0_1 a0_2 = some r) :
  Calls Try.prog 34 #[.agg #[.int .i64 a0_0, .int .i64 a0_1, .int .i64 a0_2]] w fun e w' => e = .returned (.bool r) ∧ Below w.heap.size w w' := by
 have hu23 := Try.underlying23
 have HB := a0_ (Below.refl w.heap.size w)
 have H : ((date_Weekday.f k a0_0 a0_1 a0_2).bind fun bt904 => (if bt904.2 = 0 then (some (decide (bt904.1 < 5))) else (some false))) = some r := h
 clear h
 replace H := oB_ H
 obtain ⟨⟨t904, t905⟩, A20, H⟩ := H
 replace H : (if t905 = 0 then (some (decide (t904 < 5))) else (some false)) = some r := H
 have A2 := a0_ A20
 clear A20
 by_cases c3 : t905 = 0
 ·rw [if_pos c3] at H
  have c3b0 : (t905 == 0) = true := beq_iff_eq.mpr c3
  have c3b1 : (t905 != 0) = false := bne_eq_false_iff_eq.mpr c3
  clear c3
  obtain rfl := Option.some.inj H
  go_enter Try.func34, Try.ntmps34
  go_wp2_with (first | ((with_reducible refine gate_dst (N := 1) rfl ?_); refine box_event ?hg (N := 1) ?hd (cs := #[.int .i64 a0_0, .int .i64 a0_1, .int .i64 a0_2]) (t := 23) ?hr ?_; (case hd => rfl); (case hg => rfl); (case hr => first | (go_simp; done) | (go_simp; rfl)); intro gb903 hg w4 hbox hb; have n0_ := a0_ (below_step (by repeat (first | (with_reducible first | exact HB.out | apply lA_ | apply lN_ | apply lD_) | exact HB.out)) hb); have n1_ := a0_ (hbox); have n2_ := a0_ ((by rw [hg]; exact (below_size (by repeat (first | (with_reducible first | exact HB.out | apply lA_ | apply lN_ | apply lD_) | exact HB.out))) : w.heap.size ≤ gb903)); have n3_ := a0_ ((by rw [hg]; exact (below_size (by repeat (first | (with_reducible first | exact HB.out | apply lA_ | apply lN_ | apply lD_) | exact HB.out))) : w.heap.size ≤ gb903)); clear HB; have HB := n0_; have BK903 := n1_; have GW903 := n2_; have GE903 := n3_; clear n0_ n1_ n2_ n3_; clear hb hbox hg; have hcz5_0 : w4.cell? ⟨gb903, 0, none⟩ = some (.int .i64 a0_0) := (bC_ BK903.out 0).trans rfl; have hcz5_1 : w4.cell? ⟨gb903, 1, none⟩ = some (.int .i64 a0_1) := (bC_ BK903.out 1).trans rfl; have hcz5_2 : w4.cell? ⟨gb903, 2, none⟩ = some (.int .i64 a0_2) := (bC_ BK903.out 2).trans rfl; have hfz5_0 := bF_ BK903.out 0; have hfz5_1 := bF_ BK903.out 1; have hfz5_2 := bF_ BK903.out 2) | ((with_reducible refine gate_callee (f := 47) rfl ?_); refine goesL_ (some 7) rfl rfl Try.func47 (by kernel_rfl) rfl #[.agg #[.int .i64 a0_0, .int .i64 a0_1, .int .i64 a0_2]] rfl (by (try simp only [List.map_toArray, List.map_cons, List.map_nil]); first | done | rfl) ?_; (with_reducible refine (date_Weekday.calls k a0_0 a0_1 a0_2 t904 t905 _ A2.out).mono ?_); rintro e w6 ⟨rfl, hb⟩; refine ⟨_, rfl, ?_⟩; have n0_ := a0_ (bB_ (g := gb903) (o := .cells #[.int .i64 a0_0, .int .i64 a0_1, .int .i64 a0_2] 23 (0, 0)) (by (with_reducible repeat first | apply bN_ | apply bD_ | apply bA_); exact BK903.out) hb); have n1_ := a0_ (below_step (by repeat (first | (with_reducible first | exact HB.out | apply lA_ | apply lN_ | apply lD_ | refine lS_ ?_ GE903.out) | exact HB.out)) hb); clear BK903; clear HB; have BK903 := n0_; have HB := n1_; clear n0_ n1_; (try clear hb); (try clear hb2); (try clear hk); (try clear hi)))
  go_ret
  exact ⟨by first | rfl | (simp [errW_none, errW_some] <;> rfl) | (simp [*, errW_none, errW_some] <;> rfl), by repeat (first | (with_reducible first | exact HB.out | apply lA_ | apply lN_ | apply lD_ | refine lS_ ?_ GE903.out) | exact HB.out)⟩
 ·rw [if_neg c3] at H
  have c3b0 : (t905 == 0) = false := beq_eq_false_iff_ne.mpr c3
  have c3b1 : (t905 != 0) = true := bne_iff_ne.mpr c3
  obtain rfl := Option.some.inj H
  go_enter Try.func34, Try.ntmps34
  go_wp2_with (first | ((with_reducible refine gate_dst (N := 1) rfl ?_); refine box_event ?hg (N := 1) ?hd (cs := #[.int .i64 a0_0, .int .i64 a0_1, .int .i64 a0_2]) (t := 23) ?hr ?_; (case hd => rfl); (case hg => rfl); (case hr => first | (go_simp; done) | (go_simp; rfl)); intro gb903 hg w7 hbox hb; have n0_ := a0_ (below_step (by repeat (first | (with_reducible first | exact HB.out | apply lA_ | apply lN_ | apply lD_) | exact HB.out)) hb); have n1_ := a0_ (hbox); have n2_ := a0_ ((by rw [hg]; exact (below_size (by repeat (first | (with_reducible first | exact HB.out | apply lA_ | apply lN_ | apply lD_) | exact HB.out))) : w.heap.size ≤ gb903)); have n3_ := a0_ ((by rw [hg]; exact (below_size (by repeat (first | (with_reducible first | exact HB.out | apply lA_ | apply lN_ | apply lD_) | exact HB.out))) : w.heap.size ≤ gb903)); clear HB; have HB := n0_; have BK903 := n1_; have GW903 := n2_; have GE903 := n3_; clear n0_ n1_ n2_ n3_; clear hb hbox hg; have hcz8_0 : w7.cell? ⟨gb903, 0, none⟩ = some (.int .i64 a0_0) := (bC_ BK903.out 0).trans rfl; have hcz8_1 : w7.cell? ⟨gb903, 1, none⟩ = some (.int .i64 a0_1) := (bC_ BK903.out 1).trans rfl; have hcz8_2 : w7.cell? ⟨gb903, 2, none⟩ = some (.int .i64 a0_2) := (bC_ BK903.out 2).trans rfl; have hfz8_0 := bF_ BK903.out 0; have hfz8_1 := bF_ BK903.out 1; have hfz8_2 := bF_ BK903.out 2) | ((with_reducible refine gate_callee (f := 47) rfl ?_); refine goesL_ (some 7) rfl rfl Try.func47 (by kernel_rfl) rfl #[.agg #[.int .i64 a0_0, .int .i64 a0_1, .int .i64 a0_2]] rfl (by (try simp only [List.map_toArray, List.map_cons, List.map_nil]); first | done | rfl) ?_; (with_reducible refine (date_Weekday.calls k a0_0 a0_1 a0_2 t904 t905 _ A2.out).mono ?_); rintro e w9 ⟨rfl, hb⟩; refine ⟨_, rfl, ?_⟩; have n0_ := a0_ (bB_ (g := gb903) (o := .cells #[.int .i64 a0_0, .int .i64 a0_1, .int .i64 a0_2] 23 (0, 0)) (by (with_reducible repeat first | apply bN_ | apply bD_ | apply bA_); exact BK903.out) hb); have n1_ := a0_ (below_step (by repeat (first | (with_reducible first | exact HB.out | apply lA_ | apply lN_ | apply lD_ | refine lS_ ?_ GE903.out) | exact HB.out)) hb); clear BK903; clear HB; have BK903 := n0_; have HB := n1_; clear n0_ n1_; (try clear hb); (try clear hb2); (try clear hk); (try clear hi)))
  go_ret
  exact ⟨by first | rfl | (simp [errW_none, errW_some] <;> rfl) | (simp [*, errW_none, errW_some] <;> rfl), by repeat (first | (with_reducible first | exact HB.out | apply lA_ | apply lN_ | apply lD_ | refine lS_ ?_ GE903.out) | exact HB.out)⟩

/-! ### date_Back: function 45 -/
def date_Back.l0 : Nat → Int → Int → Int → Int → Option (Int × Int × Int × Int)
 | 0, _, _, _, _ => none
 | k + 1, x5, x907000, x907001, x907002 => if x5 < 3 then ((date_Workday.f k x907000 x907001 x907002).bind fun t908 => (if t908 = true then (some (x907000, x907001, x907002, 0)) else ((date_Add.f k x907000 x907001 x907002 (-1)).bind fun bt909 => (if bt909.2.2.2 = 0 then (date_Back.l0 k (wrap64 (x5 + 1)) bt909.1 bt909.2.1 bt909.2.2.1) else (some (0, 0, 0, bt909.2.2.2)))))) else (some (0, 0, 0, 30))
def date_Back.f (k : Nat) (a0_0 : Int) (a0_1 : Int) (a0_2 : Int) : Option (Int × Int × Int × Int) := date_Back.l0 k 0 a0_0 a0_1 a0_2
set_option maxHeartbeats 8000000 in
set_option maxRecDepth 100000 in
theorem date_Back.calls (k : Nat) (a0_0 : Int) (a0_1 : Int) (a0_2 : Int) (r1 : Int) (r2 : Int) (r3 : Int) (r4 : Int) (w : World) (h : date_Back.f k a0_0 a0_1 a0_2 = some (r1, r2, r3, r4)) :
  Calls Try.prog 45 #[.agg #[.int .i64 a0_0, .int .i64 a0_1, .int .i64 a0_2]] w fun e w' => e = .returned (.tuple #[.agg #[.int .i64 r1, .int .i64 r2, .int .i64 r3], .int .i64 r4]) ∧ Below w.heap.size w w' := by
 have hu23 := Try.underlying23
 have HB := a0_ (Below.refl w.heap.size w)
 have H : (date_Back.l0 k 0 a0_0 a0_1 a0_2) = some (r1, r2, r3, r4) := h
 clear h
 have H' := a0_ H
 clear H
 go_enter Try.func45, Try.ntmps45
 go_wp2_with (first | ((with_reducible refine gate_dst (N := 1) rfl ?_); refine box_event ?hg (N := 1) ?hd (cs := #[.int .i64 a0_0, .int .i64 a0_1, .int .i64 a0_2]) (t := 23) ?hr ?_; (case hd => rfl); (case hg => rfl); (case hr => first | (go_simp; done) | (go_simp; rfl)); intro gb906 hg w2 hbox hb; have n0_ := a0_ (below_step (by repeat (first | (with_reducible first | exact HB.out | apply lA_ | apply lN_ | apply lD_) | exact HB.out)) hb); have n1_ := a0_ (hbox); have n2_ := a0_ ((by rw [hg]; exact (below_size (by repeat (first | (with_reducible first | exact HB.out | apply lA_ | apply lN_ | apply lD_) | exact HB.out))) : w.heap.size ≤ gb906)); have n3_ := a0_ ((by rw [hg]; exact (below_size (by repeat (first | (with_reducible first | exact HB.out | apply lA_ | apply lN_ | apply lD_) | exact HB.out))) : w.heap.size ≤ gb906)); clear HB; have HB := n0_; have BK906 := n1_; have GW906 := n2_; have GE906 := n3_; clear n0_ n1_ n2_ n3_; clear hb hbox hg) | ((with_reducible refine gate_dst (N := 2) rfl ?_); refine box_event ?hg (N := 2) ?hd (cs := #[.int .i64 0, .int .i64 0, .int .i64 0]) (t := 23) ?hr ?_; (case hd => rfl); (case hg => rfl); (case hr => first | (go_simp; done) | (go_simp; rfl)); intro gb907 hg w3 hbox hb; have n0_ := a0_ (bB_ (g := gb906) (o := .cells #[.int .i64 a0_0, .int .i64 a0_1, .int .i64 a0_2] 23 (0, 0)) (by (with_reducible repeat first | apply bN_ | apply bD_ | apply bA_); exact BK906.out) hb); have n1_ := a0_ (below_step (by repeat (first | (with_reducible first | exact HB.out | apply lA_ | apply lN_ | apply lD_ | refine lS_ ?_ GE906.out) | exact HB.out)) hb); have n2_ := a0_ (hbox); have n3_ := a0_ ((by rw [hg]; exact (below_size (by repeat (first | (with_reducible first | exact HB.out | apply lA_ | apply lN_ | apply lD_ | refine lS_ ?_ GE906.out) | exact HB.out))) : w.heap.size ≤ gb907)); have n4_ := a0_ ((by rw [hg]; exact (below_size (by repeat (first | (with_reducible first | exact HB.out | apply lA_ | apply lN_ | apply lD_ | refine lS_ ?_ GE906.out) | exact HB.out))) : w.heap.size ≤ gb907)); have n5_ := a0_ ((by rw [hg]; exact Nat.ne_of_lt (blk_lt (g := gb906) (o := .cells #[.int .i64 a0_0, .int .i64 a0_1, .int .i64 a0_2] 23 (0, 0)) (by (with_reducible repeat first | apply bN_ | apply bD_ | apply bA_); exact BK906.out)) : gb906 ≠ gb907)); have n6_ := a0_ ((by rw [hg]; exact Nat.ne_of_gt (blk_lt (g := gb906) (o := .cells #[.int .i64 a0_0, .int .i64 a0_1, .int .i64 a0_2] 23 (0, 0)) (by (with_reducible repeat first | apply bN_ | apply bD_ | apply bA_); exact BK906.out)) : gb907 ≠ gb906)); clear BK906; clear HB; have BK906 := n0_; have HB := n1_; have BK907 := n2_; have GW907 := n3_; have GE907 := n4_; have NB906_907 := n5_; have NB907_906 := n6_; clear n0_ n1_ n2_ n3_ n4_ n5_ n6_; clear hb hbox hg))
 go_loopg [5] k (fun kq v5 w' => ∃ (x5_1 : Int) (x907000_1 : Int) (x907001_1 : Int) (x907002_1 : Int) (x908000_1 : Int) (x908001_1 : Int) (x908002_1 : Int), v5 = .int .i64 x5_1 ∧ Aside0 (date_Back.l0 kq x5_1 x907000_1 x907001_1 x907002_1 = some (r1, r2, r3, r4)) ∧ Aside0 (kq ≤ k) ∧ Aside0 (w'.heap[gb906]? = some (.cells #[.int .i64 x907000_1, .int .i64 x907001_1, .int .i64 x907002_1] 23 (0, 0))) ∧ Aside0 (w'.heap[gb907]? = some (.cells #[.int .i64 x908000_1, .int .i64 x908001_1, .int .i64 x908002_1] 23 (0, 0))) ∧ Aside0 (Below w.heap.size w w'))
 case atStart => exact ⟨(0), (a0_0), (a0_1), (a0_2), (0), (0), (0), (by first | rfl | (simp; done) | (simp [*]; done)), H', ⟨Nat.le_refl _⟩, ⟨by (with_reducible repeat first | apply bN_ | apply bD_ | apply bA_); exact BK906.out⟩, ⟨by (with_reducible repeat first | apply bN_ | apply bD_ | apply bA_); exact BK907.out⟩, ⟨by repeat (first | (with_reducible first | exact HB.out | apply lA_ | apply lN_ | apply lD_ | refine lS_ ?_ GE906.out | refine lS_ ?_ GE907.out) | exact HB.out)⟩⟩
 case round =>
  clear H'
  obtain ⟨x5_1, x907000_1, x907001_1, x907002_1, x908000_1, x908001_1, x908002_1, rfl, HA, HK1, BK906, BK907, HB⟩ := hrel
  cases gk with
  | zero => exact absurd HA.out (by simp [date_Back.l0])
  | succ k1 =>
   have H := HA.out
   clear HA
   simp only [date_Back.l0] at H
   by_cases c4 : x5_1 < 3
   ·rw [if_pos c4] at H
    have c4b0 : decide (x5_1 < 3) = true := decide_eq_true c4
    clear c4
    replace H := oB_ H
    obtain ⟨t908, A50, H⟩ := H
    replace H : (if t908 = true then (some (x907000_1, x907001_1, x907002_1, 0)) else ((date_Add.f k1 x907000_1 x907001_1 x907002_1 (-1)).bind fun bt909 => (if bt909.2.2.2 = 0 then (date_Back.l0 k1 (wrap64 (x5_1 + 1)) bt909.1 bt909.2.1 bt909.2.2.1) else (some (0, 0, 0, bt909.2.2.2))))) = some (r1, r2, r3, r4) := H
    have A5 := a0_ A50
    clear A50
    by_cases c6 : t908 = true
    ·subst c6
     have H1 : (some (x907000_1, x907001_1, x907002_1, 0)) = some (r1, r2, r3, r4) := by rw [if_pos rfl] at H; exact H
     clear H
     have H := H1
     clear H1
     simp only [Option.some.injEq, Prod.mk.injEq] at H
     obtain ⟨rfl, rfl, rfl, rfl⟩ := H
     have hnb7 := NB906_907.out
     have hnc7 := NB907_906.out
     have hcz8_0 : wr.cell? ⟨gb906, 0, none⟩ = some (.int .i64 x907000_1) := (bC_ BK906.out 0).trans rfl
     have hcz8_1 : wr.cell? ⟨gb906, 1, none⟩ = some (.int .i64 x907001_1) := (bC_ BK906.out 1).trans rfl
     have hcz8_2 : wr.cell? ⟨gb906, 2, none⟩ = some (.int .i64 x907002_1) := (bC_ BK906.out 2).trans rfl
     have hfz8_0 := bF_ BK906.out 0
     have hfz8_1 := bF_ BK906.out 1
     have hfz8_2 := bF_ BK906.out 2
     go_wp2_with (first | ((with_reducible refine gate_callee (f := 34) rfl ?_); refine goesL_ (some 8) rfl rfl Try.func34 (by kernel_rfl) rfl #[.agg #[.int .i64 x907000_1, .int .i64 x907001_1, .int .i64 x907002_1]] rfl (by (try simp only [List.map_toArray, List.map_cons, List.map_nil]); first | done | rfl) ?_; (with_reducible refine (date_Workday.calls k1 x907000_1 x907001_1 x907002_1 true _ A5.out).mono ?_); rintro e w9 ⟨rfl, hb⟩; refine ⟨_, rfl, ?_⟩; have n0_ := a0_ (bB_ (g := gb906) (o := .cells #[.int .i64 x907000_1, .int .i64 x907001_1, .int .i64 x907002_1] 23 (0, 0)) (by (with_reducible repeat first | apply bN_ | apply bD_ | apply bA_); exact BK906.out) hb); have n1_ := a0_ (bB_ (g := gb907) (o := .cells #[.int .i64 x908000_1, .int .i64 x908001_1, .int .i64 x908002_1] 23 (0, 0)) (by (with_reducible repeat first | apply bN_ | apply bD_ | apply bA_); exact BK907.out) hb); have n2_ := a0_ (below_step (by repeat (first | (with_reducible first | exact HB.out | apply lA_ | apply lN_ | apply lD_ | refine lS_ ?_ GE906.out | refine lS_ ?_ GE907.out) | exact HB.out)) hb); clear BK906; clear BK907; clear HB; have BK906 := n0_; have BK907 := n1_; have HB := n2_; clear n0_ n1_ n2_; (try clear hb); (try clear hb2); (try clear hk); (try clear hi); have hcz10_0 : w9.cell? ⟨gb906, 0, none⟩ = some (.int .i64 x907000_1) := (bC_ BK906.out 0).trans rfl; have hcz10_1 : w9.cell? ⟨gb906, 1, none⟩ = some (.int .i64 x907001_1) := (bC_ BK906.out 1).trans rfl; have hcz10_2 : w9.cell? ⟨gb906, 2, none⟩ = some (.int .i64 x907002_1) := (bC_ BK906.out 2).trans rfl; have hfz10_0 := bF_ BK906.out 0; have hfz10_1 := bF_ BK906.out 1; have hfz10_2 := bF_ BK906.out 2; have hcz11_0 : w9.cell? ⟨gb907, 0, none⟩ = some (.int .i64 x908000_1) := (bC_ BK907.out 0).trans rfl; have hcz11_1 : w9.cell? ⟨gb907, 1, none⟩ = some (.int .i64 x908001_1) := (bC_ BK907.out 1).trans rfl; have hcz11_2 : w9.cell? ⟨gb907, 2, none⟩ = some (.int .i64 x908002_1) := (bC_ BK907.out 2).trans rfl; have hfz11_0 := bF_ BK907.out 0; have hfz11_1 := bF_ BK907.out 1; have hfz11_2 := bF_ BK907.out 2))
     refine bodyPost_ret (results_ct rfl _ _ gb907 23 #[.int .i64 x907000_1, .int .i64 x907001_1, .int .i64 x907002_1] (0, 0) _ rfl (by (with_reducible repeat first | apply bN_ | apply bD_ | apply bA_); refine blk_put (cs := #[.int .i64 x907000_1, .int .i64 x907001_1, .int .i64 x908002_1]) ?_ 2 _ rfl; (with_reducible repeat first | apply bN_ | apply bD_ | apply bA_); refine blk_put (cs := #[.int .i64 x907000_1, .int .i64 x908001_1, .int .i64 x908002_1]) ?_ 1 _ rfl; (with_reducible repeat first | apply bN_ | apply bD_ | apply bA_); refine blk_put (cs := #[.int .i64 x908000_1, .int .i64 x908001_1, .int .i64 x908002_1]) ?_ 0 _ rfl; (with_reducible repeat first | apply bN_ | apply bD_ | apply bA_); exact BK907.out) Try.underlying23 rfl (by kernel_rfl)) rfl ?_
     exact ⟨by first | rfl | (simp [errW_none, errW_some] <;> rfl) | (simp [*, errW_none, errW_some] <;> rfl), by repeat (first | (with_reducible first | exact HB.out | apply lA_ | apply lN_ | apply lD_ | refine lS_ ?_ GE906.out | refine lS_ ?_ GE907.out) | exact HB.out)⟩
    ·replace c6 := Bool.eq_false_iff.mpr c6
     subst c6
     have H1 : ((date_Add.f k1 x907000_1 x907001_1 x907002_1 (-1)).bind fun bt909 => (if bt909.2.2.2 = 0 then (date_Back.l0 k1 (wrap64 (x5_1 + 1)) bt909.1 bt909.2.1 bt909.2.2.1) else (some (0, 0, 0, bt909.2.2.2)))) = some (r1, r2, r3, r4) := by rw [if_neg (show ¬ (false = true) by decide)] at H; exact H
     clear H
     have H := H1
     clear H1
     replace H := oB_ H
     obtain ⟨⟨t909, t910, t911, t912⟩, A120, H⟩ := H
     replace H : (if t912 = 0 then (date_Back.l0 k1 (wrap64 (x5_1 + 1)) t909 t910 t911) else (some (0, 0, 0, t912))) = some (r1, r2, r3, r4) := H
     have A12 := a0_ A120
     clear A120
     by_cases c13 : t912 = 0
     ·rw [if_pos c13] at H
      have c13b0 : (t912 == 0) = true := beq_iff_eq.mpr c13
      have c13b1 : (t912 != 0) = false := bne_eq_false_iff_eq.mpr c13
      clear c13
      have H' := a0_ H
      clear H
      have hnb14 := NB906_907.out
      have hnc14 := NB907_906.out
      have hcz15_0 : wr.cell? ⟨gb906, 0, none⟩ = some (.int .i64 x907000_1) := (bC_ BK906.out 0).trans rfl
      have hcz15_1 : wr.cell? ⟨gb906, 1, none⟩ = some (.int .i64 x907001_1) := (bC_ BK906.out 1).trans rfl
      have hcz15_2 : wr.cell? ⟨gb906, 2, none⟩ = some (.int .i64 x907002_1) := (bC_ BK906.out 2).trans rfl
      have hfz15_0 := bF_ BK906.out 0
      have hfz15_1 := bF_ BK906.out 1
      have hfz15_2 := bF_ BK906.out 2
      go_wp2_with (first | ((with_reducible refine gate_callee (f := 34) rfl ?_); refine goesL_ (some 8) rfl rfl Try.func34 (by kernel_rfl) rfl #[.agg #[.int .i64 x907000_1, .int .i64 x907001_1, .int .i64 x907002_1]] rfl (by (try simp only [List.map_toArray, List.map_cons, List.map_nil]); first | done | rfl) ?_; (with_reducible refine (date_Workday.calls k1 x907000_1 x907001_1 x907002_1 false _ A5.out).mono ?_); rintro e w16 ⟨rfl, hb⟩; refine ⟨_, rfl, ?_⟩; have n0_ := a0_ (bB_ (g := gb906) (o := .cells #[.int .i64 x907000_1, .int .i64 x907001_1, .int .i64 x907002_1] 23 (0, 0)) (by (with_reducible repeat first | apply bN_ | apply bD_ | apply bA_); exact BK906.out) hb); have n1_ := a0_ (bB_ (g := gb907) (o := .cells #[.int .i64 x908000_1, .int .i64 x908001_1, .int .i64 x908002_1] 23 (0, 0)) (by (with_reducible repeat first | apply bN_ | apply bD_ | apply bA_); exact BK907.out) hb); have n2_ := a0_ (below_step (by repeat (first | (with_reducible first | exact HB.out | apply lA_ | apply lN_ | apply lD_ | refine lS_ ?_ GE906.out | refine lS_ ?_ GE907.out) | exact HB.out)) hb); clear BK906; clear BK907; clear HB; have BK906 := n0_; have BK907 := n1_; have HB := n2_; clear n0_ n1_ n2_; (try clear hb); (try clear hb2); (try clear hk); (try clear hi); have hcz17_0 : w16.cell? ⟨gb906, 0, none⟩ = some (.int .i64 x907000_1) := (bC_ BK906.out 0).trans rfl; have hcz17_1 : w16.cell? ⟨gb906, 1, none⟩ = some (.int .i64 x907001_1) := (bC_ BK906.out 1).trans rfl; have hcz17_2 : w16.cell? ⟨gb906, 2, none⟩ = some (.int .i64 x907002_1) := (bC_ BK906.out 2).trans rfl; have hfz17_0 := bF_ BK906.out 0; have hfz17_1 := bF_ BK906.out 1; have hfz17_2 := bF_ BK906.out 2) | ((with_reducible refine gate_callee (f := 13) rfl ?_); refine goesL_ (some 12) rfl rfl Try.func13 (by kernel_rfl) rfl #[.agg #[.int .i64 x907000_1, .int .i64 x907001_1, .int .i64 x907002_1], .int .i64 (-1)] rfl (by (try simp only [List.map_toArray, List.map_cons, List.map_nil]); first | done | rfl) ?_; (with_reducible refine (date_Add.calls k1 x907000_1 x907001_1 x907002_1 (-1) t909 t910 t911 t912 _ A12.out).mono ?_); rintro e w18 ⟨rfl, hb⟩; refine ⟨_, rfl, ?_⟩; have n0_ := a0_ (bB_ (g := gb906) (o := .cells #[.int .i64 x907000_1, .int .i64 x907001_1, .int .i64 x907002_1] 23 (0, 0)) (by (with_reducible repeat first | apply bN_ | apply bD_ | apply bA_); exact BK906.out) hb); have n1_ := a0_ (bB_ (g := gb907) (o := .cells #[.int .i64 x908000_1, .int .i64 x908001_1, .int .i64 x908002_1] 23 (0, 0)) (by (with_reducible repeat first | apply bN_ | apply bD_ | apply bA_); exact BK907.out) hb); have n2_ := a0_ (below_step (by repeat (first | (with_reducible first | exact HB.out | apply lA_ | apply lN_ | apply lD_ | refine lS_ ?_ GE906.out | refine lS_ ?_ GE907.out) | exact HB.out)) hb); clear BK906; clear BK907; clear HB; have BK906 := n0_; have BK907 := n1_; have HB := n2_; clear n0_ n1_ n2_; (try clear hb); (try clear hb2); (try clear hk); (try clear hi); have hcz19_0 : w18.cell? ⟨gb906, 0, none⟩ = some (.int .i64 x907000_1) := (bC_ BK906.out 0).trans rfl; have hcz19_1 : w18.cell? ⟨gb906, 1, none⟩ = some (.int .i64 x907001_1) := (bC_ BK906.out 1).trans rfl; have hcz19_2 : w18.cell? ⟨gb906, 2, none⟩ = some (.int .i64 x907002_1) := (bC_ BK906.out 2).trans rfl; have hfz19_0 := bF_ BK906.out 0; have hfz19_1 := bF_ BK906.out 1; have hfz19_2 := bF_ BK906.out 2))
      go_roundg k1
      case measure => have := HK1.out; omega
      case rel => exact ⟨(wrap64 (x5_1 + 1)), (t909), (t910), (t911), (x908000_1), (x908001_1), (x908002_1), (by first | rfl | (simp; done) | (simp [*]; done)), H', ⟨by have := HK1.out; omega⟩, ⟨by (with_reducible repeat first | apply bN_ | apply bD_ | apply bA_); refine blk_put (cs := #[.int .i64 t909, .int .i64 t910, .int .i64 x907002_1]) ?_ 2 _ rfl; (with_reducible repeat first | apply bN_ | apply bD_ | apply bA_); refine blk_put (cs := #[.int .i64 t909, .int .i64 x907001_1, .int .i64 x907002_1]) ?_ 1 _ rfl; (with_reducible repeat first | apply bN_ | apply bD_ | apply bA_); refine blk_put (cs := #[.int .i64 x907000_1, .int .i64 x907001_1, .int .i64 x907002_1]) ?_ 0 _ rfl; (with_reducible repeat first | apply bN_ | apply bD_ | apply bA_); exact BK906.out⟩, ⟨by (with_reducible repeat first | apply bN_ | apply bD_ | apply bA_); refine blk_far ?_ NB907_906.out _; (with_reducible repeat first | apply bN_ | apply bD_ | apply bA_); refine blk_far ?_ NB907_906.out _; (with_reducible repeat first | apply bN_ | apply bD_ | apply bA_); refine blk_far ?_ NB907_906.out _; (with_reducible repeat first | apply bN_ | apply bD_ | apply bA_); exact BK907.out⟩, ⟨by repeat (first | (with_reducible first | exact HB.out | apply lA_ | apply lN_ | apply lD_ | refine lS_ ?_ GE906.out | refine lS_ ?_ GE907.out) | exact HB.out)⟩⟩
     ·rw [if_neg c13] at H
      have c13b0 : (t912 == 0) = false := beq_eq_false_iff_ne.mpr c13
      have c13b1 : (t912 != 0) = true := bne_iff_ne.mpr c13
      simp only [Option.some.injEq, Prod.mk.injEq] at H
      obtain ⟨rfl, rfl, rfl, rfl⟩ := H
      have hnb20 := NB906_907.out
      have hnc20 := NB907_906.out
      have hcz21_0 : wr.cell? ⟨gb906, 0, none⟩ = some (.int .i64 x907000_1) := (bC_ BK906.out 0).trans rfl
      have hcz21_1 : wr.cell? ⟨gb906, 1, none⟩ = some (.int .i64 x907001_1) := (bC_ BK906.out 1).trans rfl
      have hcz21_2 : wr.cell? ⟨gb906, 2, none⟩ = some (.int .i64 x907002_1) := (bC_ BK906.out 2).trans rfl
      have hfz21_0 := bF_ BK906.out 0
      have hfz21_1 := bF_ BK906.out 1
      have hfz21_2 := bF_ BK906.out 2
      go_wp2_with (first | ((with_reducible refine gate_callee (f := 34) rfl ?_); refine goesL_ (some 8) rfl rfl Try.func34 (by kernel_rfl) rfl #[.agg #[.int .i64 x907000_1, .int .i64 x907001_1, .int .i64 x907002_1]] rfl (by (try simp only [List.map_toArray, List.map_cons, List.map_nil]); first | done | rfl) ?_; (with_reducible refine (date_Workday.calls k1 x907000_1 x907001_1 x907002_1 false _ A5.out).mono ?_); rintro e w22 ⟨rfl, hb⟩; refine ⟨_, rfl, ?_⟩; have n0_ := a0_ (bB_ (g := gb906) (o := .cells #[.int .i64 x907000_1, .int .i64 x907001_1, .int .i64 x907002_1] 23 (0, 0)) (by (with_reducible repeat first | apply bN_ | apply bD_ | apply bA_); exact BK906.out) hb); have n1_ := a0_ (bB_ (g := gb907) (o := .cells #[.int .i64 x908000_1, .int .i64 x908001_1, .int .i64 x908002_1] 23 (0, 0)) (by (with_reducible repeat first | apply bN_ | apply bD_ | apply bA_); exact BK907.out) hb); have n2_ := a0_ (below_step (by repeat (first | (with_reducible first | exact HB.out | apply lA_ | apply lN_ | apply lD_ | refine lS_ ?_ GE906.out | refine lS_ ?_ GE907.out) | exact HB.out)) hb); clear BK906; clear BK907; clear HB; have BK906 := n0_; have BK907 := n1_; have HB := n2_; clear n0_ n1_ n2_; (try clear hb); (try clear hb2); (try clear hk); (try clear hi); have hcz23_0 : w22.cell? ⟨gb906, 0, none⟩ = some (.int .i64 x907000_1) := (bC_ BK906.out 0).trans rfl; have hcz23_1 : w22.cell? ⟨gb906, 1, none⟩ = some (.int .i64 x907001_1) := (bC_ BK906.out 1).trans rfl; have hcz23_2 : w22.cell? ⟨gb906, 2, none⟩ = some (.int .i64 x907002_1) := (bC_ BK906.out 2).trans rfl; have hfz23_0 := bF_ BK906.out 0; have hfz23_1 := bF_ BK906.out 1; have hfz23_2 := bF_ BK906.out 2) | ((with_reducible refine gate_callee (f := 13) rfl ?_); refine goesL_ (some 12) rfl rfl Try.func13 (by kernel_rfl) rfl #[.agg #[.int .i64 x907000_1, .int .i64 x907001_1, .int .i64 x907002_1], .int .i64 (-1)] rfl (by (try simp only [List.map_toArray, List.map_cons, List.map_nil]); first | done | rfl) ?_; (with_reducible refine (date_Add.calls k1 x907000_1 x907001_1 x907002_1 (-1) t909 t910 t911 t912 _ A12.out).mono ?_); rintro e w24 ⟨rfl, hb⟩; refine ⟨_, rfl, ?_⟩; have n0_ := a0_ (bB_ (g := gb906) (o := .cells #[.int .i64 x907000_1, .int .i64 x907001_1, .int .i64 x907002_1] 23 (0, 0)) (by (with_reducible repeat first | apply bN_ | apply bD_ | apply bA_); exact BK906.out) hb); have n1_ := a0_ (bB_ (g := gb907) (o := .cells #[.int .i64 x908000_1, .int .i64 x908001_1, .int .i64 x908002_1] 23 (0, 0)) (by (with_reducible repeat first | apply bN_ | apply bD_ | apply bA_); exact BK907.out) hb); have n2_ := a0_ (below_step (by repeat (first | (with_reducible first | exact HB.out | apply lA_ | apply lN_ | apply lD_ | refine lS_ ?_ GE906.out | refine lS_ ?_ GE907.out) | exact HB.out)) hb); clear BK906; clear BK907; clear HB; have BK906 := n0_; have BK907 := n1_; have HB := n2_; clear n0_ n1_ n2_; (try clear hb); (try clear hb2); (try clear hk); (try clear hi); have hcz25_0 : w24.cell? ⟨gb906, 0, none⟩ = some (.int .i64 x907000_1) := (bC_ BK906.out 0).trans rfl; have hcz25_1 : w24.cell? ⟨gb906, 1, none⟩ = some (.int .i64 x907001_1) := (bC_ BK906.out 1).trans rfl; have hcz25_2 : w24.cell? ⟨gb906, 2, none⟩ = some (.int .i64 x907002_1) := (bC_ BK906.out 2).trans rfl; have hfz25_0 := bF_ BK906.out 0; have hfz25_1 := bF_ BK906.out 1; have hfz25_2 := bF_ BK906.out 2; have hcz26_0 : w24.cell? ⟨gb907, 0, none⟩ = some (.int .i64 x908000_1) := (bC_ BK907.out 0).trans rfl; have hcz26_1 : w24.cell? ⟨gb907, 1, none⟩ = some (.int .i64 x908001_1) := (bC_ BK907.out 1).trans rfl; have hcz26_2 : w24.cell? ⟨gb907, 2, none⟩ = some (.int .i64 x908002_1) := (bC_ BK907.out 2).trans rfl; have hfz26_0 := bF_ BK907.out 0; have hfz26_1 := bF_ BK907.out 1; have hfz26_2 := bF_ BK907.out 2))
      refine bodyPost_ret (results_ct rfl _ _ gb907 23 #[.int .i64 0, .int .i64 0, .int .i64 0] (0, 0) _ rfl (by (with_reducible repeat first | apply bN_ | apply bD_ | apply bA_); refine blk_put (cs := #[.int .i64 0, .int .i64 0, .int .i64 x908002_1]) ?_ 2 _ rfl; (with_reducible repeat first | apply bN_ | apply bD_ | apply bA_); refine blk_put (cs := #[.int .i64 0, .int .i64 x908001_1, .int .i64 x908002_1]) ?_ 1 _ rfl; (with_reducible repeat first | apply bN_ | apply bD_ | apply bA_); refine blk_put (cs := #[.int .i64 x908000_1, .int .i64 x908001_1, .int .i64 x908002_1]) ?_ 0 _ rfl; (with_reducible repeat first | apply bN_ | apply bD_ | apply bA_); refine blk_far ?_ NB907_906.out _; (with_reducible repeat first | apply bN_ | apply bD_ | apply bA_); refine blk_far ?_ NB907_906.out _; (with_reducible repeat first | apply bN_ | apply bD_ | apply bA_); refine blk_far ?_ NB907_906.out _; (with_reducible repeat first | apply bN_ | apply bD_ | apply bA_); exact BK907.out) Try.underlying23 rfl (by kernel_rfl)) rfl ?_
      exact ⟨by first | rfl | (simp [errW_none, errW_some] <;> rfl) | (simp [*, errW_none, errW_some] <;> rfl), by repeat (first | (with_reducible first | exact HB.out | apply lA_ | apply lN_ | apply lD_ | refine lS_ ?_ GE906.out | refine lS_ ?_ GE907.out) | exact HB.out)⟩
   ·rw [if_neg c4] at H
    have c4b0 : decide (x5_1 < 3) = false := decide_eq_false c4
    clear c4
    simp only [Option.some.injEq, Prod.mk.injEq] at H
    obtain ⟨rfl, rfl, rfl, rfl⟩ := H
    have hnb27 := NB907_906.out
    have hnc27 := NB906_907.out
    have hcz28_0 : wr.cell? ⟨gb907, 0, none⟩ = some (.int .i64 x908000_1) := (bC_ BK907.out 0).trans rfl
    have hcz28_1 : wr.cell? ⟨gb907, 1, none⟩ = some (.int .i64 x908001_1) := (bC_ BK907.out 1).trans rfl
    have hcz28_2 : wr.cell? ⟨gb907, 2, none⟩ = some (.int .i64 x908002_1) := (bC_ BK907.out 2).trans rfl
    have hfz28_0 := bF_ BK907.out 0
    have hfz28_1 := bF_ BK907.out 1
    have hfz28_2 := bF_ BK907.out 2
    go_wp2
    refine bodyPost_ret (results_ct rfl _ _ gb907 23 #[.int .i64 0, .int .i64 0, .int .i64 0] (0, 0) _ rfl (by (with_reducible repeat first | apply bN_ | apply bD_ | apply bA_); refine blk_put (cs := #[.int .i64 0, .int .i64 0, .int .i64 x908002_1]) ?_ 2 _ rfl; (with_reducible repeat first | apply bN_ | apply bD_ | apply bA_); refine blk_put (cs := #[.int .i64 0, .int .i64 x908001_1, .int .i64 x908002_1]) ?_ 1 _ rfl; (with_reducible repeat first | apply bN_ | apply bD_ | apply bA_); refine blk_put (cs := #[.int .i64 x908000_1, .int .i64 x908001_1, .int .i64 x908002_1]) ?_ 0 _ rfl; (with_reducible repeat first | apply bN_ | apply bD_ | apply bA_); exact BK907.out) Try.underlying23 rfl (by kernel_rfl)) rfl ?_
    exact ⟨by first | rfl | (simp [errW_none, errW_some] <;> rfl) | (simp [*, errW_none, errW_some] <;> rfl), by repeat (first | (with_reducible first | exact HB.out | apply lA_ | apply lN_ | apply lD_ | refine lS_ ?_ GE906.out | refine lS_ ?_ GE907.out) | exact HB.out)⟩

end Go.Proofs.Ytojinnnckfimhaa.X
