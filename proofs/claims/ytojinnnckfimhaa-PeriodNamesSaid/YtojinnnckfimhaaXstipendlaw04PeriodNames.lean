-- laid by the session's own program (xprint.py) out of Lean's print of the program; Lean checks it
import Derived.Test.YtojinnnckfimhaaX0
import Derived.Test.YtojinnnckfimhaaXperiodNominal
import Derived.Test.YtojinnnckfimhaaXstipendlaw04cuts
import Derived.Test.YtojinnnckfimhaaXperiodName
namespace Go.Proofs.Ytojinnnckfimhaa.X
open Go.RowKit Go.Proofs.YtojinnnckfimhaaW.PrintWords Go.Proofs.YtojinnnckfimhaaW.PrintLast
set_option linter.unusedVariables false
set_option linter.unusedSimpArgs false

/-! ### stipendlaw04_PeriodNames: function 8 -/
mutual
def stipendlaw04_PeriodNames.j0 : Nat → Int → ByteArray → ByteArray → Bool → ByteArray → ByteArray → ByteArray → ByteArray → ByteArray → Option (Bool)
 | 0, _, _, _, _, _, _, _, _, _ => none
 | k + 1, x0, x1, x6, x23, x895000, x895001, x895002, x895003, x895004 => if x23 = true then (if 0 ≤ x0 then (if x0 < 5 then (stipendlaw04_PeriodNames.j1 k x0 x1 (rdOf ByteArray.empty ([x895000, x895001, x895002, x895003, x895004] : List ByteArray) x0) x895000 x895001 x895002 x895003 x895004) else (none)) else (none)) else (stipendlaw04_PeriodNames.j1 k x0 x1 x6 x895000 x895001 x895002 x895003 x895004)
def stipendlaw04_PeriodNames.j1 : Nat → Int → ByteArray → ByteArray → ByteArray → ByteArray → ByteArray → ByteArray → ByteArray → Option (Bool)
 | 0, _, _, _, _, _, _, _, _ => none
 | k + 1, x0, x1, x6, x895000, x895001, x895002, x895003, x895004 => (period_Freq.f k x1).bind fun bt895 => (stipendlaw04_PeriodNames.l0 k x0 x1 x6 bt895.1 bt895.2 0 0 x895000 x895001 x895002 x895003 x895004)
def stipendlaw04_PeriodNames.l0 : Nat → Int → ByteArray → ByteArray → Int → Int → Int → Int → ByteArray → ByteArray → ByteArray → ByteArray → ByteArray → Option (Bool)
 | 0, _, _, _, _, _, _, _, _, _, _, _, _ => none
 | k + 1, x0, x1, x6, x7, x8, x9, x33, x895000, x895001, x895002, x895003, x895004 => if x33 < 5 then (if 0 ≤ x33 then (if x33 > 0 then (if (rdOf ByteArray.empty ([x895000, x895001, x895002, x895003, x895004] : List ByteArray) x33).toList = x1.toList then (stipendlaw04_PeriodNames.l0 k x0 x1 x6 x7 x8 x33 (wrap64 (x33 + 1)) x895000 x895001 x895002 x895003 x895004) else (stipendlaw04_PeriodNames.l0 k x0 x1 x6 x7 x8 x9 (wrap64 (x33 + 1)) x895000 x895001 x895002 x895003 x895004)) else (stipendlaw04_PeriodNames.l0 k x0 x1 x6 x7 x8 x9 (wrap64 (x33 + 1)) x895000 x895001 x895002 x895003 x895004)) else (none)) else ((period_Name.f x0).bind fun t897 => (if t897.toList = x6.toList then (if x7 = x9 then (if ((x8 == 0) == (decide (x9 > 0))) = true then (if x8 = 0 then ((period_Nominal.f x0).bind fun t898 => (some ((decide (t898 > 0)) == (x6.toList != ([] : List UInt8))))) else (if x8 = 40 then ((period_Nominal.f x0).bind fun t899 => (some ((decide (t899 > 0)) == (x6.toList != ([] : List UInt8))))) else (none))) else (none)) else (none)) else (none)))
end
def stipendlaw04_PeriodNames.f (k : Nat) (a0 : Int) (a1 : ByteArray) : Option (Bool) := (stipendlaw04_cuts.f k).bind fun t893 => (if t893 = true then (if (a1.size : Int) > 60 then (some true) else (if a0 > 0 then (stipendlaw04_PeriodNames.j0 k a0 a1 (⟨#[]⟩ : ByteArray) (decide (a0 < 5)) (⟨#[]⟩ : ByteArray) (⟨#[119, 101, 101, 107, 108, 121]⟩ : ByteArray) (⟨#[102, 111, 114, 116, 110, 105, 103, 104, 116, 108, 121]⟩ : ByteArray) (⟨#[102, 111, 117, 114, 119, 101, 101, 107, 108, 121]⟩ : ByteArray) (⟨#[109, 111, 110, 116, 104, 108, 121]⟩ : ByteArray)) else (stipendlaw04_PeriodNames.j0 k a0 a1 (⟨#[]⟩ : ByteArray) false (⟨#[]⟩ : ByteArray) (⟨#[119, 101, 101, 107, 108, 121]⟩ : ByteArray) (⟨#[102, 111, 114, 116, 110, 105, 103, 104, 116, 108, 121]⟩ : ByteArray) (⟨#[102, 111, 117, 114, 119, 101, 101, 107, 108, 121]⟩ : ByteArray) (⟨#[109, 111, 110, 116, 104, 108, 121]⟩ : ByteArray)))) else (none))
theorem text5_addr {i : Int} (h0 : 0 ≤ i) (h1 : i < 5) (g : Nat) (W : World) : Sem.run Try.prog (Instr.indexAt 53 (Value.pointer (some ⟨g, 0, none⟩)) (Value.int .i64 i)) W = Result.ok (.pointer (some ⟨g, i.toNat, none⟩)) W := by
 have hu := Try.underlying53
 have hc := show Try.prog.cellsOf 9 = 1 by kernel_rfl
 have h5 : i < ((5 : Nat) : Int) := h1
 simp [Instr.indexAt, asIntOf, go_sem, run_underlying hu, Instr.sureAddr, h0, h5]
 intro h6
 omega
theorem text5_at {i : Int} (h0 : 0 ≤ i) (h1 : i < 5) (p0 p1 p2 p3 p4 : ByteArray) (W : World) : Sem.run Try.prog (Instr.index 53 (Value.agg #[.string p0, .string p1, .string p2, .string p3, .string p4]) (Value.int .i64 i)) W = Result.ok (.string (rdOf ByteArray.empty ([p0, p1, p2, p3, p4] : List ByteArray) i)) W := by
 have hu := Try.underlying53
 have : i = 0 ∨ i = 1 ∨ i = 2 ∨ i = 3 ∨ i = 4 := by omega
 rcases this with rfl | rfl | rfl | rfl | rfl
 ·simp [Instr.index, asIntOf, go_sem, run_underlying hu, rdOf]
 ·simp [Instr.index, asIntOf, go_sem, run_underlying hu, rdOf]
 ·simp [Instr.index, asIntOf, go_sem, run_underlying hu, rdOf]
 ·simp [Instr.index, asIntOf, go_sem, run_underlying hu, rdOf]
 ·simp [Instr.index, asIntOf, go_sem, run_underlying hu, rdOf]
theorem text5_cell {w : World} {g : Nat} {t : TypeId} {p0 p1 p2 p3 p4 : ByteArray} (h : w.heap[g]? = some (.cells #[.string p0, .string p1, .string p2, .string p3, .string p4] t (0, 0))) {i : Int} (h0 : 0 ≤ i) (h1 : i < 5) :
  w.cell? ⟨g, i.toNat, none⟩ = some (.string (rdOf ByteArray.empty ([p0, p1, p2, p3, p4] : List ByteArray) i)) := by
 have : i = 0 ∨ i = 1 ∨ i = 2 ∨ i = 3 ∨ i = 4 := by omega
 rcases this with rfl | rfl | rfl | rfl | rfl
 ·exact (bC_ h 0).trans rfl
 ·exact (bC_ h 1).trans rfl
 ·exact (bC_ h 2).trans rfl
 ·exact (bC_ h 3).trans rfl
 ·exact (bC_ h 4).trans rfl
theorem bne_nil5 (l : List UInt8) : (l != ([] : List UInt8)) = !l.isEmpty := by cases l <;> rfl
set_option maxHeartbeats 8000000 in
set_option maxRecDepth 100000 in
theorem stipendlaw04_PeriodNames.calls (k : Nat) (a0 : Int) (a1 : ByteArray) (r : Bool) (w : World) (h : stipendlaw04_PeriodNames.f k a0 a1 = some r) :
  Calls Try.prog 8 #[.int .i64 a0, .string a1] w fun e w' => e = .returned (.bool r) ∧ Below w.heap.size w w' := by
 have hu53 := Try.underlying53
 have HB := a0_ (Below.refl w.heap.size w)
 have H : ((stipendlaw04_cuts.f k).bind fun t893 => (if t893 = true then (if (a1.size : Int) > 60 then (some true) else (if a0 > 0 then (stipendlaw04_PeriodNames.j0 k a0 a1 (⟨#[]⟩ : ByteArray) (decide (a0 < 5)) (⟨#[]⟩ : ByteArray) (⟨#[119, 101, 101, 107, 108, 121]⟩ : ByteArray) (⟨#[102, 111, 114, 116, 110, 105, 103, 104, 116, 108, 121]⟩ : ByteArray) (⟨#[102, 111, 117, 114, 119, 101, 101, 107, 108, 121]⟩ : ByteArray) (⟨#[109, 111, 110, 116, 104, 108, 121]⟩ : ByteArray)) else (stipendlaw04_PeriodNames.j0 k a0 a1 (⟨#[]⟩ : ByteArray) false (⟨#[]⟩ : ByteArray) (⟨#[119, 101, 101, 107, 108, 121]⟩ : ByteArray) (⟨#[102, 111, 114, 116, 110, 105, 103, 104, 116, 108, 121]⟩ : ByteArray) (⟨#[102, 111, 117, 114, 119, 101, 101, 107, 108, 121]⟩ : ByteArray) (⟨#[109, 111, 110, 116, 104, 108, 121]⟩ : ByteArray)))) else (none))) = some r := h
 clear h
 replace H := oB_ H
 obtain ⟨t893, A30, H⟩ := H
 replace H : (if t893 = true then (if (a1.size : Int) > 60 then (some true) else (if a0 > 0 then (stipendlaw04_PeriodNames.j0 k a0 a1 (⟨#[]⟩ : ByteArray) (decide (a0 < 5)) (⟨#[]⟩ : ByteArray) (⟨#[119, 101, 101, 107, 108, 121]⟩ : ByteArray) (⟨#[102, 111, 114, 116, 110, 105, 103, 104, 116, 108, 121]⟩ : ByteArray) (⟨#[102, 111, 117, 114, 119, 101, 101, 107, 108, 121]⟩ : ByteArray) (⟨#[109, 111, 110, 116, 104, 108, 121]⟩ : ByteArray)) else (stipendlaw04_PeriodNames.j0 k a0 a1 (⟨#[]⟩ : ByteArray) false (⟨#[]⟩ : ByteArray) (⟨#[119, 101, 101, 107, 108, 121]⟩ : ByteArray) (⟨#[102, 111, 114, 116, 110, 105, 103, 104, 116, 108, 121]⟩ : ByteArray) (⟨#[102, 111, 117, 114, 119, 101, 101, 107, 108, 121]⟩ : ByteArray) (⟨#[109, 111, 110, 116, 104, 108, 121]⟩ : ByteArray)))) else (none)) = some r := H
 have A3 := a0_ A30
 clear A30
 by_cases c4 : t893 = true
 ·subst c4
  have H1 : (if (a1.size : Int) > 60 then (some true) else (if a0 > 0 then (stipendlaw04_PeriodNames.j0 k a0 a1 (⟨#[]⟩ : ByteArray) (decide (a0 < 5)) (⟨#[]⟩ : ByteArray) (⟨#[119, 101, 101, 107, 108, 121]⟩ : ByteArray) (⟨#[102, 111, 114, 116, 110, 105, 103, 104, 116, 108, 121]⟩ : ByteArray) (⟨#[102, 111, 117, 114, 119, 101, 101, 107, 108, 121]⟩ : ByteArray) (⟨#[109, 111, 110, 116, 104, 108, 121]⟩ : ByteArray)) else (stipendlaw04_PeriodNames.j0 k a0 a1 (⟨#[]⟩ : ByteArray) false (⟨#[]⟩ : ByteArray) (⟨#[119, 101, 101, 107, 108, 121]⟩ : ByteArray) (⟨#[102, 111, 114, 116, 110, 105, 103, 104, 116, 108, 121]⟩ : ByteArray) (⟨#[102, 111, 117, 114, 119, 101, 101, 107, 108, 121]⟩ : ByteArray) (⟨#[109, 111, 110, 116, 104, 108, 121]⟩ : ByteArray)))) = some r := by rw [if_pos rfl] at H; exact H
  clear H
  have H := H1
  clear H1
  by_cases c5 : (a1.size : Int) > 60
  ·rw [if_pos c5] at H
   have c5b0 : decide (60 < (a1.size : Int)) = true := decide_eq_true c5
   have c5b1 : decide (60 < a1.size) = true := decide_eq_true (by omega)
   clear c5
   obtain rfl := Option.some.inj H
   go_enter Try.func8, Try.ntmps8
   go_wp2_with (first | ((with_reducible refine gate_callee (f := 20) rfl ?_); refine goesL_ (some 12) rfl rfl Try.func20 (by kernel_rfl) rfl #[] rfl (by (try simp only [List.map_toArray, List.map_cons, List.map_nil]); first | done | rfl) ?_; (with_reducible refine (stipendlaw04_cuts.calls k  true _ A3.out).mono ?_); rintro e w6 ⟨rfl, hb⟩; refine ⟨_, rfl, ?_⟩; have n0_ := a0_ (below_step (by repeat (first | (with_reducible first | exact HB.out | apply lA_ | apply lN_ | apply lD_) | exact HB.out)) hb); clear HB; have HB := n0_; clear n0_; (try clear hb); (try clear hb2); (try clear hk); (try clear hi)))
   go_ret
   exact ⟨by first | rfl | (simp [bne_nil5]; done) | (simp [*, bne_nil5]; done) | (simp [errW_none, errW_some] <;> rfl) | (simp [*, errW_none, errW_some] <;> rfl), by repeat (first | (with_reducible first | exact HB.out | apply lA_ | apply lN_ | apply lD_) | exact HB.out)⟩
  ·rw [if_neg c5] at H
   have c5b0 : decide (60 < (a1.size : Int)) = false := decide_eq_false c5
   have c5b1 : decide (60 < a1.size) = false := decide_eq_false (by omega)
   clear c5
   have HC7 := a0_ H
   clear H
   go_enter Try.func8, Try.ntmps8
   go_upto_region 7 with (first | ((with_reducible refine gate_callee (f := 20) rfl ?_); refine goesL_ (some 12) rfl rfl Try.func20 (by kernel_rfl) rfl #[] rfl (by (try simp only [List.map_toArray, List.map_cons, List.map_nil]); first | done | rfl) ?_; (with_reducible refine (stipendlaw04_cuts.calls k  true _ A3.out).mono ?_); rintro e w8 ⟨rfl, hb⟩; refine ⟨_, rfl, ?_⟩; have n0_ := a0_ (below_step (by repeat (first | (with_reducible first | exact HB.out | apply lA_ | apply lN_ | apply lD_) | exact HB.out)) hb); clear HB; have HB := n0_; clear n0_; (try clear hb); (try clear hb2); (try clear hk); (try clear hi)) | ((with_reducible refine gate_dst (N := 5) rfl ?_); refine box_event ?hg (N := 5) ?hd (cs := #[.string (⟨#[]⟩ : ByteArray), .string (⟨#[]⟩ : ByteArray), .string (⟨#[]⟩ : ByteArray), .string (⟨#[]⟩ : ByteArray), .string (⟨#[]⟩ : ByteArray)]) (t := 53) ?hr ?_; (case hd => rfl); (case hg => rfl); (case hr => first | (go_simp; done) | (go_simp; rfl)); intro gb894 hg w9 hbox hb; have n0_ := a0_ (below_step (by repeat (first | (with_reducible first | exact HB.out | apply lA_ | apply lN_ | apply lD_) | exact HB.out)) hb); have n1_ := a0_ (hbox); have n2_ := a0_ ((by rw [hg]; exact (below_size (by repeat (first | (with_reducible first | exact HB.out | apply lA_ | apply lN_ | apply lD_) | exact HB.out))) : w.heap.size ≤ gb894)); have n3_ := a0_ ((by rw [hg]; exact (below_size (by repeat (first | (with_reducible first | exact HB.out | apply lA_ | apply lN_ | apply lD_) | exact HB.out))) : w.heap.size ≤ gb894)); clear HB; have HB := n0_; have BK894 := n1_; have GW894 := n2_; have GE894 := n3_; clear n0_ n1_ n2_ n3_; clear hb hbox hg; have hcz10_0 : w9.cell? ⟨gb894, 0, none⟩ = some (.string (⟨#[]⟩ : ByteArray)) := (bC_ BK894.out 0).trans rfl; have hcz10_1 : w9.cell? ⟨gb894, 1, none⟩ = some (.string (⟨#[]⟩ : ByteArray)) := (bC_ BK894.out 1).trans rfl; have hcz10_2 : w9.cell? ⟨gb894, 2, none⟩ = some (.string (⟨#[]⟩ : ByteArray)) := (bC_ BK894.out 2).trans rfl; have hcz10_3 : w9.cell? ⟨gb894, 3, none⟩ = some (.string (⟨#[]⟩ : ByteArray)) := (bC_ BK894.out 3).trans rfl; have hcz10_4 : w9.cell? ⟨gb894, 4, none⟩ = some (.string (⟨#[]⟩ : ByteArray)) := (bC_ BK894.out 4).trans rfl; have hfz10_0 := bF_ BK894.out 0; have hfz10_1 := bF_ BK894.out 1; have hfz10_2 := bF_ BK894.out 2; have hfz10_3 := bF_ BK894.out 3; have hfz10_4 := bF_ BK894.out 4))
   (try simp only [Act.put, zA_, zB_, zC_])
   go_cut [23] (fun v23 wc => ∃ (kq : Nat) (x23_6 : Bool), v23 = .bool x23_6 ∧ Aside0 (stipendlaw04_PeriodNames.j0 kq a0 a1 (⟨#[]⟩ : ByteArray) x23_6 (⟨#[]⟩ : ByteArray) (⟨#[119, 101, 101, 107, 108, 121]⟩ : ByteArray) (⟨#[102, 111, 114, 116, 110, 105, 103, 104, 116, 108, 121]⟩ : ByteArray) (⟨#[102, 111, 117, 114, 119, 101, 101, 107, 108, 121]⟩ : ByteArray) (⟨#[109, 111, 110, 116, 104, 108, 121]⟩ : ByteArray) = some r) ∧ Aside0 (kq ≤ k) ∧ Aside0 (wc.heap[gb894]? = some (.cells #[.string (⟨#[]⟩ : ByteArray), .string (⟨#[119, 101, 101, 107, 108, 121]⟩ : ByteArray), .string (⟨#[102, 111, 114, 116, 110, 105, 103, 104, 116, 108, 121]⟩ : ByteArray), .string (⟨#[102, 111, 117, 114, 119, 101, 101, 107, 108, 121]⟩ : ByteArray), .string (⟨#[109, 111, 110, 116, 104, 108, 121]⟩ : ByteArray)] 53 (0, 0))) ∧ Aside0 (Below w.heap.size w wc))
   case first =>
    have H := HC7.out
    clear HC7
    by_cases c11 : a0 > 0
    ·rw [if_pos c11] at H
     have c11b0 : decide (0 < a0) = true := decide_eq_true c11
     clear c11
     (first | rw [c11b0] | (simp only [i64_w, i32_w]; rw [c11b0]) | skip)
     have H' := a0_ H
     clear H
     go_wp2
     go_meet
     case rel => exact ⟨_, (decide (a0 < 5)), (by first | rfl | (simp; done) | (simp [*]; done)), H', ⟨by first | omega | exact Nat.le_refl _⟩, ⟨by (with_reducible repeat first | apply bN_ | apply bD_ | apply bA_); refine blk_put (cs := #[.string (⟨#[]⟩ : ByteArray), .string (⟨#[119, 101, 101, 107, 108, 121]⟩ : ByteArray), .string (⟨#[102, 111, 114, 116, 110, 105, 103, 104, 116, 108, 121]⟩ : ByteArray), .string (⟨#[102, 111, 117, 114, 119, 101, 101, 107, 108, 121]⟩ : ByteArray), .string (⟨#[]⟩ : ByteArray)]) ?_ 4 _ rfl; (with_reducible repeat first | apply bN_ | apply bD_ | apply bA_); refine blk_put (cs := #[.string (⟨#[]⟩ : ByteArray), .string (⟨#[119, 101, 101, 107, 108, 121]⟩ : ByteArray), .string (⟨#[102, 111, 114, 116, 110, 105, 103, 104, 116, 108, 121]⟩ : ByteArray), .string (⟨#[]⟩ : ByteArray), .string (⟨#[]⟩ : ByteArray)]) ?_ 3 _ rfl; (with_reducible repeat first | apply bN_ | apply bD_ | apply bA_); refine blk_put (cs := #[.string (⟨#[]⟩ : ByteArray), .string (⟨#[119, 101, 101, 107, 108, 121]⟩ : ByteArray), .string (⟨#[]⟩ : ByteArray), .string (⟨#[]⟩ : ByteArray), .string (⟨#[]⟩ : ByteArray)]) ?_ 2 _ rfl; (with_reducible repeat first | apply bN_ | apply bD_ | apply bA_); refine blk_put (cs := #[.string (⟨#[]⟩ : ByteArray), .string (⟨#[]⟩ : ByteArray), .string (⟨#[]⟩ : ByteArray), .string (⟨#[]⟩ : ByteArray), .string (⟨#[]⟩ : ByteArray)]) ?_ 1 _ rfl; (with_reducible repeat first | apply bN_ | apply bD_ | apply bA_); refine blk_put (cs := #[.string (⟨#[]⟩ : ByteArray), .string (⟨#[]⟩ : ByteArray), .string (⟨#[]⟩ : ByteArray), .string (⟨#[]⟩ : ByteArray), .string (⟨#[]⟩ : ByteArray)]) ?_ 0 _ rfl; (with_reducible repeat first | apply bN_ | apply bD_ | apply bA_); exact BK894.out⟩, ⟨by repeat (first | (with_reducible first | exact HB.out | apply lA_ | apply lN_ | apply lD_ | refine lS_ ?_ GE894.out) | exact HB.out)⟩⟩
    ·rw [if_neg c11] at H
     have c11b0 : decide (0 < a0) = false := decide_eq_false c11
     clear c11
     (first | rw [c11b0] | (simp only [i64_w, i32_w]; rw [c11b0]) | skip)
     have H' := a0_ H
     clear H
     go_wp2
     go_meet
     case rel => exact ⟨_, (false), (by first | rfl | (simp; done) | (simp [*]; done)), H', ⟨by first | omega | exact Nat.le_refl _⟩, ⟨by (with_reducible repeat first | apply bN_ | apply bD_ | apply bA_); refine blk_put (cs := #[.string (⟨#[]⟩ : ByteArray), .string (⟨#[119, 101, 101, 107, 108, 121]⟩ : ByteArray), .string (⟨#[102, 111, 114, 116, 110, 105, 103, 104, 116, 108, 121]⟩ : ByteArray), .string (⟨#[102, 111, 117, 114, 119, 101, 101, 107, 108, 121]⟩ : ByteArray), .string (⟨#[]⟩ : ByteArray)]) ?_ 4 _ rfl; (with_reducible repeat first | apply bN_ | apply bD_ | apply bA_); refine blk_put (cs := #[.string (⟨#[]⟩ : ByteArray), .string (⟨#[119, 101, 101, 107, 108, 121]⟩ : ByteArray), .string (⟨#[102, 111, 114, 116, 110, 105, 103, 104, 116, 108, 121]⟩ : ByteArray), .string (⟨#[]⟩ : ByteArray), .string (⟨#[]⟩ : ByteArray)]) ?_ 3 _ rfl; (with_reducible repeat first | apply bN_ | apply bD_ | apply bA_); refine blk_put (cs := #[.string (⟨#[]⟩ : ByteArray), .string (⟨#[119, 101, 101, 107, 108, 121]⟩ : ByteArray), .string (⟨#[]⟩ : ByteArray), .string (⟨#[]⟩ : ByteArray), .string (⟨#[]⟩ : ByteArray)]) ?_ 2 _ rfl; (with_reducible repeat first | apply bN_ | apply bD_ | apply bA_); refine blk_put (cs := #[.string (⟨#[]⟩ : ByteArray), .string (⟨#[]⟩ : ByteArray), .string (⟨#[]⟩ : ByteArray), .string (⟨#[]⟩ : ByteArray), .string (⟨#[]⟩ : ByteArray)]) ?_ 1 _ rfl; (with_reducible repeat first | apply bN_ | apply bD_ | apply bA_); refine blk_put (cs := #[.string (⟨#[]⟩ : ByteArray), .string (⟨#[]⟩ : ByteArray), .string (⟨#[]⟩ : ByteArray), .string (⟨#[]⟩ : ByteArray), .string (⟨#[]⟩ : ByteArray)]) ?_ 0 _ rfl; (with_reducible repeat first | apply bN_ | apply bD_ | apply bA_); exact BK894.out⟩, ⟨by repeat (first | (with_reducible first | exact HB.out | apply lA_ | apply lN_ | apply lD_ | refine lS_ ?_ GE894.out) | exact HB.out)⟩⟩
   case rest =>
    clear HC7
    try clear p2
    try clear c4
    try clear c5
    try clear c5b0
    try clear c5b1
    try clear c11
    try clear c11b0
    try clear hcz10_0
    try clear hcz10_1
    try clear hcz10_2
    try clear hcz10_3
    try clear hcz10_4
    try clear hfz10_0
    try clear hfz10_1
    try clear hfz10_2
    try clear hfz10_3
    try clear hfz10_4
    obtain ⟨kq, x23_6, rfl, HA, HJ6, BK894, HB⟩ := hcut
    cases kq with
    | zero => exact absurd HA.out (by simp [stipendlaw04_PeriodNames.j0])
    | succ kj6 =>
     have H := HA.out
     clear HA
     simp only [stipendlaw04_PeriodNames.j0] at H
     have HC12 := a0_ H
     clear H
     go_upto_if 23 with (fail)
     go_cut [6] (fun v6 wc => ∃ (kq : Nat) (x6_11 : ByteArray), v6 = .string x6_11 ∧ Aside0 (stipendlaw04_PeriodNames.j1 kq a0 a1 x6_11 (⟨#[]⟩ : ByteArray) (⟨#[119, 101, 101, 107, 108, 121]⟩ : ByteArray) (⟨#[102, 111, 114, 116, 110, 105, 103, 104, 116, 108, 121]⟩ : ByteArray) (⟨#[102, 111, 117, 114, 119, 101, 101, 107, 108, 121]⟩ : ByteArray) (⟨#[109, 111, 110, 116, 104, 108, 121]⟩ : ByteArray) = some r) ∧ Aside0 (kq ≤ kj6) ∧ Aside0 (wc.heap[gb894]? = some (.cells #[.string (⟨#[]⟩ : ByteArray), .string (⟨#[119, 101, 101, 107, 108, 121]⟩ : ByteArray), .string (⟨#[102, 111, 114, 116, 110, 105, 103, 104, 116, 108, 121]⟩ : ByteArray), .string (⟨#[102, 111, 117, 114, 119, 101, 101, 107, 108, 121]⟩ : ByteArray), .string (⟨#[109, 111, 110, 116, 104, 108, 121]⟩ : ByteArray)] 53 (0, 0))) ∧ Aside0 (Below w.heap.size w wc))
     case first =>
      have H := HC12.out
      clear HC12
      by_cases c13 : x23_6 = true
      ·subst c13
       have H1 : (if 0 ≤ a0 then (if a0 < 5 then (stipendlaw04_PeriodNames.j1 kj6 a0 a1 (rdOf ByteArray.empty ([(⟨#[]⟩ : ByteArray), (⟨#[119, 101, 101, 107, 108, 121]⟩ : ByteArray), (⟨#[102, 111, 114, 116, 110, 105, 103, 104, 116, 108, 121]⟩ : ByteArray), (⟨#[102, 111, 117, 114, 119, 101, 101, 107, 108, 121]⟩ : ByteArray), (⟨#[109, 111, 110, 116, 104, 108, 121]⟩ : ByteArray)] : List ByteArray) a0) (⟨#[]⟩ : ByteArray) (⟨#[119, 101, 101, 107, 108, 121]⟩ : ByteArray) (⟨#[102, 111, 114, 116, 110, 105, 103, 104, 116, 108, 121]⟩ : ByteArray) (⟨#[102, 111, 117, 114, 119, 101, 101, 107, 108, 121]⟩ : ByteArray) (⟨#[109, 111, 110, 116, 104, 108, 121]⟩ : ByteArray)) else (none)) else (none)) = some r := by rw [if_pos rfl] at H; exact H
       clear H
       have H := H1
       clear H1
       by_cases c14 : 0 ≤ a0
       ·rw [if_pos c14] at H
        have c14b0 : decide (0 ≤ a0) = true := decide_eq_true c14
        clear c14
        (first | rw [c14b0] | (simp only [i64_w, i32_w]; rw [c14b0]) | skip)
        by_cases c15 : a0 < 5
        ·rw [if_pos c15] at H
         have c15b0 : decide (a0 < 5) = true := decide_eq_true c15
         have hxa_ := fun (g : Nat) (W : World) => text5_addr (i := a0) (of_decide_eq_true (by assumption)) (of_decide_eq_true c15b0) g W
         have hcx_ := text5_cell (i := a0) BK894.out (of_decide_eq_true (by assumption)) (of_decide_eq_true c15b0)
         clear c15
         have H' := a0_ H
         clear H
         have hcz16_0 : wc.cell? ⟨gb894, 0, none⟩ = some (.string (⟨#[]⟩ : ByteArray)) := (bC_ BK894.out 0).trans rfl
         have hcz16_1 : wc.cell? ⟨gb894, 1, none⟩ = some (.string (⟨#[119, 101, 101, 107, 108, 121]⟩ : ByteArray)) := (bC_ BK894.out 1).trans rfl
         have hcz16_2 : wc.cell? ⟨gb894, 2, none⟩ = some (.string (⟨#[102, 111, 114, 116, 110, 105, 103, 104, 116, 108, 121]⟩ : ByteArray)) := (bC_ BK894.out 2).trans rfl
         have hcz16_3 : wc.cell? ⟨gb894, 3, none⟩ = some (.string (⟨#[102, 111, 117, 114, 119, 101, 101, 107, 108, 121]⟩ : ByteArray)) := (bC_ BK894.out 3).trans rfl
         have hcz16_4 : wc.cell? ⟨gb894, 4, none⟩ = some (.string (⟨#[109, 111, 110, 116, 104, 108, 121]⟩ : ByteArray)) := (bC_ BK894.out 4).trans rfl
         have hfz16_0 := bF_ BK894.out 0
         have hfz16_1 := bF_ BK894.out 1
         have hfz16_2 := bF_ BK894.out 2
         have hfz16_3 := bF_ BK894.out 3
         have hfz16_4 := bF_ BK894.out 4
         go_wp2
         go_meet
         case rel => exact ⟨_, (rdOf ByteArray.empty ([(⟨#[]⟩ : ByteArray), (⟨#[119, 101, 101, 107, 108, 121]⟩ : ByteArray), (⟨#[102, 111, 114, 116, 110, 105, 103, 104, 116, 108, 121]⟩ : ByteArray), (⟨#[102, 111, 117, 114, 119, 101, 101, 107, 108, 121]⟩ : ByteArray), (⟨#[109, 111, 110, 116, 104, 108, 121]⟩ : ByteArray)] : List ByteArray) a0), (by first | rfl | (simp; done) | (simp [*]; done)), H', ⟨by have := HJ6.out; first | omega | exact Nat.le_refl _⟩, ⟨by (with_reducible repeat first | apply bN_ | apply bD_ | apply bA_); exact BK894.out⟩, ⟨by repeat (first | (with_reducible first | exact HB.out | apply lA_ | apply lN_ | apply lD_ | refine lS_ ?_ GE894.out) | exact HB.out)⟩⟩
        ·rw [if_neg c15] at H
         exact absurd H (by simp)
       ·rw [if_neg c14] at H
        exact absurd H (by simp)
      ·replace c13 := Bool.eq_false_iff.mpr c13
       subst c13
       have H1 : (stipendlaw04_PeriodNames.j1 kj6 a0 a1 (⟨#[]⟩ : ByteArray) (⟨#[]⟩ : ByteArray) (⟨#[119, 101, 101, 107, 108, 121]⟩ : ByteArray) (⟨#[102, 111, 114, 116, 110, 105, 103, 104, 116, 108, 121]⟩ : ByteArray) (⟨#[102, 111, 117, 114, 119, 101, 101, 107, 108, 121]⟩ : ByteArray) (⟨#[109, 111, 110, 116, 104, 108, 121]⟩ : ByteArray)) = some r := by rw [if_neg (show ¬ (false = true) by decide)] at H; exact H
       clear H
       have H := H1
       clear H1
       have H' := a0_ H
       clear H
       go_wp2
       go_meet
       case rel => exact ⟨_, ((⟨#[]⟩ : ByteArray)), (by first | rfl | (simp; done) | (simp [*]; done)), H', ⟨by have := HJ6.out; first | omega | exact Nat.le_refl _⟩, ⟨by (with_reducible repeat first | apply bN_ | apply bD_ | apply bA_); exact BK894.out⟩, ⟨by repeat (first | (with_reducible first | exact HB.out | apply lA_ | apply lN_ | apply lD_ | refine lS_ ?_ GE894.out) | exact HB.out)⟩⟩
     case rest =>
      clear HC12
      try clear p2
      try clear c4
      try clear c5
      try clear c5b0
      try clear c5b1
      try clear c11
      try clear c11b0
      try clear c13
      try clear c14
      try clear c14b0
      try clear c15
      try clear c15b0
      try clear hcz10_0
      try clear hcz10_1
      try clear hcz10_2
      try clear hcz10_3
      try clear hcz10_4
      try clear hcz16_0
      try clear hcz16_1
      try clear hcz16_2
      try clear hcz16_3
      try clear hcz16_4
      try clear hfz10_0
      try clear hfz10_1
      try clear hfz10_2
      try clear hfz10_3
      try clear hfz10_4
      try clear hfz16_0
      try clear hfz16_1
      try clear hfz16_2
      try clear hfz16_3
      try clear hfz16_4
      try clear p2
      obtain ⟨kq, x6_11, rfl, HA, HJ11, BK894, HB⟩ := hcut
      cases kq with
      | zero => exact absurd HA.out (by simp [stipendlaw04_PeriodNames.j1])
      | succ kj11 =>
       have H := HA.out
       clear HA
       simp only [stipendlaw04_PeriodNames.j1] at H
       replace H := oB_ H
       obtain ⟨⟨t895, t896⟩, A170, H⟩ := H
       replace H : (stipendlaw04_PeriodNames.l0 kj11 a0 a1 x6_11 t895 t896 0 0 (⟨#[]⟩ : ByteArray) (⟨#[119, 101, 101, 107, 108, 121]⟩ : ByteArray) (⟨#[102, 111, 114, 116, 110, 105, 103, 104, 116, 108, 121]⟩ : ByteArray) (⟨#[102, 111, 117, 114, 119, 101, 101, 107, 108, 121]⟩ : ByteArray) (⟨#[109, 111, 110, 116, 104, 108, 121]⟩ : ByteArray)) = some r := H
       have A17 := a0_ A170
       clear A170
       have H' := a0_ H
       clear H
       go_wp2_with (first | ((with_reducible refine gate_callee (f := 29) rfl ?_); refine goesL_ (some 29) rfl rfl Try.func29 (by kernel_rfl) rfl #[.string a1] rfl (by (try simp only [List.map_toArray, List.map_cons, List.map_nil]); first | done | rfl) ?_; (with_reducible refine (period_Freq.calls kj11 a1 t895 t896 _ A17.out).mono ?_); rintro e w' ⟨rfl, ⟨nd, rfl⟩⟩; refine ⟨_, rfl, ?_⟩; have hcz18_0 : wc.cell? ⟨gb894, 0, none⟩ = some (.string (⟨#[]⟩ : ByteArray)) := (bC_ BK894.out 0).trans rfl; have hcz18_1 : wc.cell? ⟨gb894, 1, none⟩ = some (.string (⟨#[119, 101, 101, 107, 108, 121]⟩ : ByteArray)) := (bC_ BK894.out 1).trans rfl; have hcz18_2 : wc.cell? ⟨gb894, 2, none⟩ = some (.string (⟨#[102, 111, 114, 116, 110, 105, 103, 104, 116, 108, 121]⟩ : ByteArray)) := (bC_ BK894.out 2).trans rfl; have hcz18_3 : wc.cell? ⟨gb894, 3, none⟩ = some (.string (⟨#[102, 111, 117, 114, 119, 101, 101, 107, 108, 121]⟩ : ByteArray)) := (bC_ BK894.out 3).trans rfl; have hcz18_4 : wc.cell? ⟨gb894, 4, none⟩ = some (.string (⟨#[109, 111, 110, 116, 104, 108, 121]⟩ : ByteArray)) := (bC_ BK894.out 4).trans rfl; have hfz18_0 := bF_ BK894.out 0; have hfz18_1 := bF_ BK894.out 1; have hfz18_2 := bF_ BK894.out 2; have hfz18_3 := bF_ BK894.out 3; have hfz18_4 := bF_ BK894.out 4))
       go_loopg [9, 33] kj11 (fun kq v9 v33 w' => ∃ (x9_3 : Int) (x33_3 : Int), v9 = .int .i64 x9_3 ∧ v33 = .int .i64 x33_3 ∧ Aside0 (stipendlaw04_PeriodNames.l0 kq a0 a1 x6_11 t895 t896 x9_3 x33_3 (⟨#[]⟩ : ByteArray) (⟨#[119, 101, 101, 107, 108, 121]⟩ : ByteArray) (⟨#[102, 111, 114, 116, 110, 105, 103, 104, 116, 108, 121]⟩ : ByteArray) (⟨#[102, 111, 117, 114, 119, 101, 101, 107, 108, 121]⟩ : ByteArray) (⟨#[109, 111, 110, 116, 104, 108, 121]⟩ : ByteArray) = some r) ∧ Aside0 (kq ≤ kj11) ∧ Aside0 (w'.heap[gb894]? = some (.cells #[.string (⟨#[]⟩ : ByteArray), .string (⟨#[119, 101, 101, 107, 108, 121]⟩ : ByteArray), .string (⟨#[102, 111, 114, 116, 110, 105, 103, 104, 116, 108, 121]⟩ : ByteArray), .string (⟨#[102, 111, 117, 114, 119, 101, 101, 107, 108, 121]⟩ : ByteArray), .string (⟨#[109, 111, 110, 116, 104, 108, 121]⟩ : ByteArray)] 53 (0, 0))) ∧ Aside0 (Below w.heap.size w w'))
       case atStart => exact ⟨(0), (0), (by first | rfl | (simp; done) | (simp [*]; done)), (by first | rfl | (simp; done) | (simp [*]; done)), H', ⟨Nat.le_refl _⟩, ⟨by (with_reducible repeat first | apply bN_ | apply bD_ | apply bA_); exact BK894.out⟩, ⟨by repeat (first | (with_reducible first | exact HB.out | apply lA_ | apply lN_ | apply lD_ | refine lS_ ?_ GE894.out) | exact HB.out)⟩⟩
       case round =>
        clear H'
        try clear p2
        try clear c4
        try clear c5
        try clear c5b0
        try clear c5b1
        try clear c11
        try clear c11b0
        try clear c13
        try clear c14
        try clear c14b0
        try clear c15
        try clear c15b0
        try clear hcz10_0
        try clear hcz10_1
        try clear hcz10_2
        try clear hcz10_3
        try clear hcz10_4
        try clear hcz16_0
        try clear hcz16_1
        try clear hcz16_2
        try clear hcz16_3
        try clear hcz16_4
        try clear hcz18_0
        try clear hcz18_1
        try clear hcz18_2
        try clear hcz18_3
        try clear hcz18_4
        try clear hfz10_0
        try clear hfz10_1
        try clear hfz10_2
        try clear hfz10_3
        try clear hfz10_4
        try clear hfz16_0
        try clear hfz16_1
        try clear hfz16_2
        try clear hfz16_3
        try clear hfz16_4
        try clear hfz18_0
        try clear hfz18_1
        try clear hfz18_2
        try clear hfz18_3
        try clear hfz18_4
        try clear p2
        obtain ⟨x9_3, x33_3, rfl, rfl, HA, HK3, BK894, HB⟩ := hrel
        cases gk with
        | zero => exact absurd HA.out (by simp [stipendlaw04_PeriodNames.l0])
        | succ k3 =>
         have H := HA.out
         clear HA
         simp only [stipendlaw04_PeriodNames.l0] at H
         by_cases c19 : x33_3 < 5
         ·rw [if_pos c19] at H
          have c19b0 : decide (x33_3 < 5) = true := decide_eq_true c19
          clear c19
          by_cases c20 : 0 ≤ x33_3
          ·rw [if_pos c20] at H
           have c20b0 : decide (0 ≤ x33_3) = true := decide_eq_true c20
           have hix_ := fun (p0 p1 p2 p3 p4 : ByteArray) (W : World) => text5_at (i := x33_3) (of_decide_eq_true c20b0) (of_decide_eq_true (by assumption)) p0 p1 p2 p3 p4 W
           clear c20
           by_cases c21 : x33_3 > 0
           ·rw [if_pos c21] at H
            have c21b0 : decide (0 < x33_3) = true := decide_eq_true c21
            clear c21
            by_cases c22 : (rdOf ByteArray.empty ([(⟨#[]⟩ : ByteArray), (⟨#[119, 101, 101, 107, 108, 121]⟩ : ByteArray), (⟨#[102, 111, 114, 116, 110, 105, 103, 104, 116, 108, 121]⟩ : ByteArray), (⟨#[102, 111, 117, 114, 119, 101, 101, 107, 108, 121]⟩ : ByteArray), (⟨#[109, 111, 110, 116, 104, 108, 121]⟩ : ByteArray)] : List ByteArray) x33_3).toList = a1.toList
            ·rw [if_pos c22] at H
             have c22b0 : ((rdOf ByteArray.empty ([(⟨#[]⟩ : ByteArray), (⟨#[119, 101, 101, 107, 108, 121]⟩ : ByteArray), (⟨#[102, 111, 114, 116, 110, 105, 103, 104, 116, 108, 121]⟩ : ByteArray), (⟨#[102, 111, 117, 114, 119, 101, 101, 107, 108, 121]⟩ : ByteArray), (⟨#[109, 111, 110, 116, 104, 108, 121]⟩ : ByteArray)] : List ByteArray) x33_3).toList == a1.toList) = true := beq_iff_eq.mpr c22
             have c22b1 : ((rdOf ByteArray.empty ([(⟨#[]⟩ : ByteArray), (⟨#[119, 101, 101, 107, 108, 121]⟩ : ByteArray), (⟨#[102, 111, 114, 116, 110, 105, 103, 104, 116, 108, 121]⟩ : ByteArray), (⟨#[102, 111, 117, 114, 119, 101, 101, 107, 108, 121]⟩ : ByteArray), (⟨#[109, 111, 110, 116, 104, 108, 121]⟩ : ByteArray)] : List ByteArray) x33_3).toList != a1.toList) = false := bne_eq_false_iff_eq.mpr c22
             clear c22
             have H' := a0_ H
             clear H
             go_wp2
             go_roundg k3
             case measure => have := HJ6.out; have := HJ11.out; have := HK3.out; omega
             case rel => exact ⟨(x33_3), (wrap64 (x33_3 + 1)), (by first | rfl | (simp; done) | (simp [*]; done)), (by first | rfl | (simp; done) | (simp [*]; done)), H', ⟨by have := HJ6.out; have := HJ11.out; have := HK3.out; omega⟩, ⟨by (with_reducible repeat first | apply bN_ | apply bD_ | apply bA_); exact BK894.out⟩, ⟨by repeat (first | (with_reducible first | exact HB.out | apply lA_ | apply lN_ | apply lD_ | refine lS_ ?_ GE894.out) | exact HB.out)⟩⟩
            ·rw [if_neg c22] at H
             have c22b0 : ((rdOf ByteArray.empty ([(⟨#[]⟩ : ByteArray), (⟨#[119, 101, 101, 107, 108, 121]⟩ : ByteArray), (⟨#[102, 111, 114, 116, 110, 105, 103, 104, 116, 108, 121]⟩ : ByteArray), (⟨#[102, 111, 117, 114, 119, 101, 101, 107, 108, 121]⟩ : ByteArray), (⟨#[109, 111, 110, 116, 104, 108, 121]⟩ : ByteArray)] : List ByteArray) x33_3).toList == a1.toList) = false := beq_eq_false_iff_ne.mpr c22
             have c22b1 : ((rdOf ByteArray.empty ([(⟨#[]⟩ : ByteArray), (⟨#[119, 101, 101, 107, 108, 121]⟩ : ByteArray), (⟨#[102, 111, 114, 116, 110, 105, 103, 104, 116, 108, 121]⟩ : ByteArray), (⟨#[102, 111, 117, 114, 119, 101, 101, 107, 108, 121]⟩ : ByteArray), (⟨#[109, 111, 110, 116, 104, 108, 121]⟩ : ByteArray)] : List ByteArray) x33_3).toList != a1.toList) = true := bne_iff_ne.mpr c22
             have H' := a0_ H
             clear H
             go_wp2
             go_roundg k3
             case measure => have := HJ6.out; have := HJ11.out; have := HK3.out; omega
             case rel => exact ⟨(x9_3), (wrap64 (x33_3 + 1)), (by first | rfl | (simp; done) | (simp [*]; done)), (by first | rfl | (simp; done) | (simp [*]; done)), H', ⟨by have := HJ6.out; have := HJ11.out; have := HK3.out; omega⟩, ⟨by (with_reducible repeat first | apply bN_ | apply bD_ | apply bA_); exact BK894.out⟩, ⟨by repeat (first | (with_reducible first | exact HB.out | apply lA_ | apply lN_ | apply lD_ | refine lS_ ?_ GE894.out) | exact HB.out)⟩⟩
           ·rw [if_neg c21] at H
            have c21b0 : decide (0 < x33_3) = false := decide_eq_false c21
            clear c21
            have H' := a0_ H
            clear H
            go_wp2
            go_roundg k3
            case measure => have := HJ6.out; have := HJ11.out; have := HK3.out; omega
            case rel => exact ⟨(x9_3), (wrap64 (x33_3 + 1)), (by first | rfl | (simp; done) | (simp [*]; done)), (by first | rfl | (simp; done) | (simp [*]; done)), H', ⟨by have := HJ6.out; have := HJ11.out; have := HK3.out; omega⟩, ⟨by (with_reducible repeat first | apply bN_ | apply bD_ | apply bA_); exact BK894.out⟩, ⟨by repeat (first | (with_reducible first | exact HB.out | apply lA_ | apply lN_ | apply lD_ | refine lS_ ?_ GE894.out) | exact HB.out)⟩⟩
          ·rw [if_neg c20] at H
           exact absurd H (by simp)
         ·rw [if_neg c19] at H
          have c19b0 : decide (x33_3 < 5) = false := decide_eq_false c19
          clear c19
          replace H := oB_ H
          obtain ⟨t897, A230, H⟩ := H
          replace H : (if t897.toList = x6_11.toList then (if t895 = x9_3 then (if ((t896 == 0) == (decide (x9_3 > 0))) = true then (if t896 = 0 then ((period_Nominal.f a0).bind fun t898 => (some ((decide (t898 > 0)) == (x6_11.toList != ([] : List UInt8))))) else (if t896 = 40 then ((period_Nominal.f a0).bind fun t899 => (some ((decide (t899 > 0)) == (x6_11.toList != ([] : List UInt8))))) else (none))) else (none)) else (none)) else (none)) = some r := H
          have A23 := a0_ A230
          clear A230
          by_cases c24 : t897.toList = x6_11.toList
          ·rw [if_pos c24] at H
           have c24b0 : (t897.toList == x6_11.toList) = true := beq_iff_eq.mpr c24
           have c24b1 : (t897.toList != x6_11.toList) = false := bne_eq_false_iff_eq.mpr c24
           clear c24
           by_cases c25 : t895 = x9_3
           ·rw [if_pos c25] at H
            have c25b0 : (t895 == x9_3) = true := beq_iff_eq.mpr c25
            have c25b1 : (t895 != x9_3) = false := bne_eq_false_iff_eq.mpr c25
            clear c25
            by_cases c26 : ((t896 == 0) == (decide (x9_3 > 0))) = true
            ·rw [if_pos c26] at H
             have c26b0 : ((t896 == 0) == (decide (x9_3 > 0))) = true := c26
             (try (have c26b1 : decide ((t896 == 0) = (decide (x9_3 > 0))) = true := by simpa using c26))
             (try (have c26b2 : ((t896 == 0) == (decide (x9_3 > 0))) = true := by simpa using c26))
             clear c26
             by_cases c27 : t896 = 0
             ·rw [if_pos c27] at H
              have c27b0 : (t896 == 0) = true := beq_iff_eq.mpr c27
              have c27x : decide (0 < x9_3) = true := by have h_ := c26b0; rw [c27b0] at h_; simpa using h_
              have c27b1 : (t896 != 0) = false := bne_eq_false_iff_eq.mpr c27
              clear c27
              replace H := oB_ H
              obtain ⟨t898, A280, H⟩ := H
              replace H : (some ((decide (t898 > 0)) == (x6_11.toList != ([] : List UInt8)))) = some r := H
              have A28 := a0_ A280
              clear A280
              obtain rfl := Option.some.inj H
              go_wp2_with (first | ((with_reducible refine gate_callee (f := 30) rfl ?_); refine goesL_ (some 47) rfl rfl Try.func30 (by kernel_rfl) rfl #[.int .i64 a0] rfl (by (try simp only [List.map_toArray, List.map_cons, List.map_nil]); first | done | rfl) ?_; (with_reducible refine (period_Name.calls a0 t897 _ A23.out).mono ?_); rintro e w' ⟨rfl, ⟨nd, rfl⟩⟩; refine ⟨_, rfl, ?_⟩) | (go_at_call 11; (with_reducible refine (period_Nominal.calls a0 t898 _ A28.out).mono ?_); rintro e w' ⟨rfl, ⟨nd, rfl⟩⟩))
              go_ret
              exact ⟨by first | rfl | (simp [bne_nil5]; done) | (simp [*, bne_nil5]; done) | (simp [errW_none, errW_some] <;> rfl) | (simp [*, errW_none, errW_some] <;> rfl), by repeat (first | (with_reducible first | exact HB.out | apply lA_ | apply lN_ | apply lD_ | refine lS_ ?_ GE894.out) | exact HB.out)⟩
             ·rw [if_neg c27] at H
              have c27b0 : (t896 == 0) = false := beq_eq_false_iff_ne.mpr c27
              have c27x : decide (0 < x9_3) = false := by have h_ := c26b0; rw [c27b0] at h_; simpa using h_
              have c27b1 : (t896 != 0) = true := bne_iff_ne.mpr c27
              by_cases c29 : t896 = 40
              ·rw [if_pos c29] at H
               have c29b0 : (t896 == 40) = true := beq_iff_eq.mpr c29
               have c29b1 : (t896 != 40) = false := bne_eq_false_iff_eq.mpr c29
               clear c29
               replace H := oB_ H
               obtain ⟨t899, A300, H⟩ := H
               replace H : (some ((decide (t899 > 0)) == (x6_11.toList != ([] : List UInt8)))) = some r := H
               have A30 := a0_ A300
               clear A300
               obtain rfl := Option.some.inj H
               go_wp2_with (first | ((with_reducible refine gate_callee (f := 30) rfl ?_); refine goesL_ (some 47) rfl rfl Try.func30 (by kernel_rfl) rfl #[.int .i64 a0] rfl (by (try simp only [List.map_toArray, List.map_cons, List.map_nil]); first | done | rfl) ?_; (with_reducible refine (period_Name.calls a0 t897 _ A23.out).mono ?_); rintro e w' ⟨rfl, ⟨nd, rfl⟩⟩; refine ⟨_, rfl, ?_⟩) | (go_at_call 11; (with_reducible refine (period_Nominal.calls a0 t899 _ A30.out).mono ?_); rintro e w' ⟨rfl, ⟨nd, rfl⟩⟩))
               go_ret
               exact ⟨by first | rfl | (simp [bne_nil5]; done) | (simp [*, bne_nil5]; done) | (simp [errW_none, errW_some] <;> rfl) | (simp [*, errW_none, errW_some] <;> rfl), by repeat (first | (with_reducible first | exact HB.out | apply lA_ | apply lN_ | apply lD_ | refine lS_ ?_ GE894.out) | exact HB.out)⟩
              ·rw [if_neg c29] at H
               exact absurd H (by simp)
            ·rw [if_neg c26] at H
             exact absurd H (by simp)
           ·rw [if_neg c25] at H
            exact absurd H (by simp)
          ·rw [if_neg c24] at H
           exact absurd H (by simp)
 ·replace c4 := Bool.eq_false_iff.mpr c4
  subst c4
  have H1 : (none) = some r := by rw [if_neg (show ¬ (false = true) by decide)] at H; exact H
  clear H
  have H := H1
  clear H1
  exact absurd H (by simp)

/-- THE ONE PURE STATEMENT of stipendlaw04_PeriodNames: yours. -/
def stipendlaw04_PeriodNames.Pure : Prop := ∀ (a0 : Int) (a1 : ByteArray), (Lit.int .i64 a0).wf = true → a1.size ≤ 140737488351232 → ∃ k, stipendlaw04_PeriodNames.f k a0 a1 = some true
theorem stipendlaw04_PeriodNames.walk (P : stipendlaw04_PeriodNames.Pure) (a0 : Int) (a1 : ByteArray) (w : World) (w0 : (Lit.int .i64 a0).wf = true) (w1 : a1.size ≤ 140737488351232) :
  Calls Try.prog 8 #[.int .i64 a0, .string a1] w fun e w' => e = .returned (.bool true) ∧ Below w.heap.size w w' := by
 obtain ⟨k, h⟩ := P a0 a1 w0 w1
 refine (stipendlaw04_PeriodNames.calls k a0 a1 true w h).mono ?_
 rintro e w' ⟨rfl, hd⟩
 exact ⟨rfl, hd⟩

end Go.Proofs.Ytojinnnckfimhaa.X
