-- laid by the session's own program (xprint.py) out of Lean's print of the program; Lean checks it
import Derived.Test.YtfiomckebicphaaB0
import Derived.Test.YtfiomckebicphaaBbandCheck
import Derived.Test.YtfiomckebicphaaBmoneyRight
import Derived.Test.YtfiomckebicphaaBpairrates
namespace Go.Proofs.Ytfiomckebicphaa.B
open Go.RowKit Go.Proofs.YtfiomckebicphaaW.PrintWords Go.Proofs.YtfiomckebicphaaW.PrintLast Go.Proofs.YtfiomckebicphaaW.PrintMore
attribute [local go_sem] max2_int min2_int max_two min_two max_three min_three max_four min_four   -- for this text's walks alone
set_option linter.unusedVariables false
set_option linter.unusedSimpArgs false

/-! ### pair_Banded: function 15 -/
mutual
def pair_Banded.l0 : Nat → Int → List (S30) → (Int × Int) → Int → Option ((Int × Int) × Int)
  | 0, _, _, _, _ => none
  | k + 1, x0, x1, x7, x8 => if x8 = (x1.length : Int) then (pair_Banded.j1 k x0 x1 x7 x8 true) else (if 0 ≤ x8 then (if x8 < (x1.length : Int) then (pair_Banded.j1 k x0 x1 x7 x8 (decide (x0 ≤ ((rd_T30 x1 x8).f0)))) else (none)) else (none))
def pair_Banded.j1 : Nat → Int → List (S30) → (Int × Int) → Int → Bool → Option ((Int × Int) × Int)
  | 0, _, _, _, _, _ => none
  | k + 1, x0, x1, x7, x8, x31 => if x31 = true then (some (x7, 0)) else (if (wrap64 (x8 + 1)) < (x1.length : Int) then (if 0 ≤ (wrap64 (x8 + 1)) then (if 0 ≤ x8 then (if x8 < (x1.length : Int) then (if Flt.fok (wrap64 ((mn x0 ((rd_T30 x1 (wrap64 (x8 + 1))).f0)) - ((rd_T30 x1 x8).f0))) = true then ((pair_rates.f ((rd_T30 x1 x8).f0) ((rd_T30 x1 x8).f1) ((rd_T30 x1 x8).f2)).bind fun t117 => (if Flt.fmul (wrap64 ((mn x0 ((rd_T30 x1 (wrap64 (x8 + 1))).f0)) - ((rd_T30 x1 x8).f0))) t117.1 t117.2 = true then (if Flt.fadd x7.1 x7.2 ((wrap64 ((mn x0 ((rd_T30 x1 (wrap64 (x8 + 1))).f0)) - ((rd_T30 x1 x8).f0))) * t117.1) ((wrap64 ((mn x0 ((rd_T30 x1 (wrap64 (x8 + 1))).f0)) - ((rd_T30 x1 x8).f0))) * t117.2) = true then (pair_Banded.l0 k x0 x1 (x7.1 + ((wrap64 ((mn x0 ((rd_T30 x1 (wrap64 (x8 + 1))).f0)) - ((rd_T30 x1 x8).f0))) * t117.1), x7.2 + ((wrap64 ((mn x0 ((rd_T30 x1 (wrap64 (x8 + 1))).f0)) - ((rd_T30 x1 x8).f0))) * t117.2)) (wrap64 (x8 + 1))) else (none)) else (none))) else (none)) else (none)) else (none)) else (none)) else (if 0 ≤ x8 then (if x8 < (x1.length : Int) then (if Flt.fok (wrap64 (x0 - ((rd_T30 x1 x8).f0))) = true then ((pair_rates.f ((rd_T30 x1 x8).f0) ((rd_T30 x1 x8).f1) ((rd_T30 x1 x8).f2)).bind fun t120 => (if Flt.fmul (wrap64 (x0 - ((rd_T30 x1 x8).f0))) t120.1 t120.2 = true then (if Flt.fadd x7.1 x7.2 ((wrap64 (x0 - ((rd_T30 x1 x8).f0))) * t120.1) ((wrap64 (x0 - ((rd_T30 x1 x8).f0))) * t120.2) = true then (pair_Banded.l0 k x0 x1 (x7.1 + ((wrap64 (x0 - ((rd_T30 x1 x8).f0))) * t120.1), x7.2 + ((wrap64 (x0 - ((rd_T30 x1 x8).f0))) * t120.2)) (wrap64 (x8 + 1))) else (none)) else (none))) else (none)) else (none)) else (none)))
end
def pair_Banded.f (k : Nat) (a0 : Int) (l1 : List (S30)) : Option ((Int × Int) × Int) := (band_Check.f k l1).bind fun t108 => (if t108 = 0 then ((money_Right.f k (([a0] : List Int))).bind fun t112 => (if t112 = true then (pair_Banded.l0 k a0 l1 (0, 0) 0) else (some ((0, 0), 10)))) else (some ((0, 0), t108)))
theorem pair_Banded.mono_l : ∀ k, (∀ y0 y1 y2 y3, LeO (pair_Banded.l0 k y0 y1 y2 y3) (pair_Banded.l0 (k + 1) y0 y1 y2 y3)) ∧ (∀ y0 y1 y2 y3 y4, LeO (pair_Banded.j1 k y0 y1 y2 y3 y4) (pair_Banded.j1 (k + 1) y0 y1 y2 y3 y4))
  | 0 => ⟨fun _ _ _ _ r h => by simp [pair_Banded.l0] at h, fun _ _ _ _ _ r h => by simp [pair_Banded.j1] at h⟩
  | k + 1 => by
    obtain ⟨ih0, ih1⟩ := pair_Banded.mono_l k
    refine ⟨?_, ?_⟩
    · intro y0 y1 y2 y3
      unfold pair_Banded.l0
      repeat' first
      | (with_reducible exact ih0 _ _ _ _)
      | (with_reducible exact ih1 _ _ _ _ _)
      | (with_reducible exact band_Check.mono _ _)
      | (with_reducible exact money_Right.mono _ _)
      | (with_reducible exact LeO.refl _)
      | (with_reducible exact LeO.none _)
      | (with_reducible refine LeO.ite ?_ ?_)
      | (with_reducible refine LeO.bind ?_ (fun _ => ?_))
      | exact ih0 _ _ _ _
      | exact ih1 _ _ _ _ _
      | exact band_Check.mono _ _
      | exact money_Right.mono _ _
      | exact LeO.none _
      | refine LeO.ite ?_ ?_
      | refine LeO.bind ?_ (fun _ => ?_)
    · intro y0 y1 y2 y3 y4
      unfold pair_Banded.j1
      repeat' first
      | (with_reducible exact ih0 _ _ _ _)
      | (with_reducible exact ih1 _ _ _ _ _)
      | (with_reducible exact band_Check.mono _ _)
      | (with_reducible exact money_Right.mono _ _)
      | (with_reducible exact LeO.refl _)
      | (with_reducible exact LeO.none _)
      | (with_reducible refine LeO.ite ?_ ?_)
      | (with_reducible refine LeO.bind ?_ (fun _ => ?_))
      | exact ih0 _ _ _ _
      | exact ih1 _ _ _ _ _
      | exact band_Check.mono _ _
      | exact money_Right.mono _ _
      | exact LeO.none _
      | refine LeO.ite ?_ ?_
      | refine LeO.bind ?_ (fun _ => ?_)
theorem pair_Banded.mono : ∀ a0 a1 k, LeO (pair_Banded.f k a0 a1) (pair_Banded.f (k + 1) a0 a1) := by
  intro a0 a1 k
  obtain ⟨ih0, ih1⟩ := pair_Banded.mono_l k
  unfold pair_Banded.f
  repeat' first
      | (with_reducible exact ih0 _ _ _ _)
      | (with_reducible exact ih1 _ _ _ _ _)
      | (with_reducible exact band_Check.mono _ _)
      | (with_reducible exact money_Right.mono _ _)
      | (with_reducible exact LeO.refl _)
      | (with_reducible exact LeO.none _)
      | (with_reducible refine LeO.ite ?_ ?_)
      | (with_reducible refine LeO.bind ?_ (fun _ => ?_))
      | exact ih0 _ _ _ _
      | exact ih1 _ _ _ _ _
      | exact band_Check.mono _ _
      | exact money_Right.mono _ _
      | exact LeO.none _
      | refine LeO.ite ?_ ?_
      | refine LeO.bind ?_ (fun _ => ?_)
def pair_Banded.T12 : Bool × List (List Nat × List Nat) := (true, [([], []), ([], []), ([], []), ([], []), ([2, 3], [2, 3]), ([4], [4]), ([5], [5]), ([1, 6], [1, 6]), ([7], [7]), ([8], [8]), ([], []), ([], []), ([10, 11], [10, 11]), ([12], [12]), ([13], [13]), ([9, 14], [9, 14]), ([0, 15], [0, 15]), ([16, 14, 0, 1, 2, 3, 4, 5, 6, 7, 8, 9, 10, 11, 12, 13, 14, 15, 16], [0, 16])])
def pair_Banded.B12 : List Nat := [0, 0, 0, 0, 12, 28, 60, 126, 254, 510, 0, 0, 3072, 7168, 15360, 32766, 65535, 131071]
theorem pair_Banded.tab12 : rtab .any (opsOf Try.f15 12) = pair_Banded.T12 := by kernel_rfl
theorem pair_Banded.bits12 : waitsOk pair_Banded.T12.2 pair_Banded.B12 = true := by kernel_rfl
set_option maxHeartbeats 8000000 in
set_option maxRecDepth 100000 in
theorem pair_Banded.calls (k : Nat) (a0 : Int) (A1 : Option Addr) (c1 : Nat) (l1 : List (S30)) (r1 : (Int × Int)) (r2 : Int) (w : World) (hr1 : Kd.C k30 w A1 l1.length l1) (hc1 : l1.length ≤ c1) (h : pair_Banded.f k a0 l1 = some (r1, r2)) :
    Calls Try.prog 15 #[.int .i64 a0, .slice A1 l1.length c1] w fun e w' => e = .returned (.tuple #[.complex .f64 (Flt.FI r1.1) (Flt.FI r1.2), .int .i64 r2]) ∧ Below w.heap.size w w' := by
  have hu30 := Try.underlying30
  have HR1 := Aside0.mk hr1
  have HC1 := Aside0.mk hc1
  clear hr1 hc1
  have HB := Aside0.mk (Below.refl w.heap.size w)
  have hcx_ := Flt.run_complex (P := Try.prog)
  have hre_ := Flt.run_real (P := Try.prog)
  have him_ := Flt.run_imag (P := Try.prog)
  have H : ((band_Check.f k l1).bind fun t108 => (if t108 = 0 then ((money_Right.f k (([a0] : List Int))).bind fun t112 => (if t112 = true then (pair_Banded.l0 k a0 l1 (0, 0) 0) else (some ((0, 0), 10)))) else (some ((0, 0), t108)))) = some (r1, r2) := h
  clear h
  replace H := Option.bind_eq_some_iff.mp H
  obtain ⟨t108, A30, H⟩ := H
  replace H : (if t108 = 0 then ((money_Right.f k (([a0] : List Int))).bind fun t112 => (if t112 = true then (pair_Banded.l0 k a0 l1 (0, 0) 0) else (some ((0, 0), 10)))) else (some ((0, 0), t108))) = some (r1, r2) := H
  have A3 := Aside0.mk A30
  clear A30
  by_cases c4 : t108 = 0
  · rw [if_pos c4] at H
    have c4b0 : (t108 == 0) = true := beq_iff_eq.mpr c4
    have c4b1 : (t108 != 0) = false := bne_eq_false_iff_eq.mpr c4
    clear c4
    obtain ⟨y109, hy109⟩ : ∃ y_ : List Int, y_ = (([a0] : List Int)) := ⟨_, rfl⟩
    replace H : ((money_Right.f k y109).bind fun t112 => (if t112 = true then (pair_Banded.l0 k a0 l1 (0, 0) 0) else (some ((0, 0), 10)))) = some (r1, r2) := by first | (rw [hy109]; with_reducible exact H) | (have H2_ := (Option.bind_some _ _).symm.trans H; rw [hy109]; with_reducible exact H2_) | (have H2_ := (Option.bind_some _ _).symm.trans H; with_reducible exact H2_) | with_reducible exact H | (rw [hy109]; exact H) | exact H
    have Ny109 := Aside0.mk hy109
    clear hy109
    replace H := Option.bind_eq_some_iff.mp H
    obtain ⟨t112, A50, H⟩ := H
    replace H : (if t112 = true then (pair_Banded.l0 k a0 l1 (0, 0) 0) else (some ((0, 0), 10))) = some (r1, r2) := H
    have A5 := Aside0.mk A50
    clear A50
    by_cases c6 : t112 = true
    · subst c6
      have H1 : (pair_Banded.l0 k a0 l1 (0, 0) 0) = some (r1, r2) := by rw [if_pos rfl] at H; exact H
      clear H
      have H := H1
      clear H1
      have H' := Aside0.mk H
      clear H
      go_enter Try.func15, Try.ntmps15
      go_wp2
      refine Go.Proofs.Ytfiomckebicphaa.Lab.wp_scope_late 0 rfl ?_
      intro J0_ hJ0_
      go_wp2_with (first | ((with_reducible refine gate_callee (f := 17) rfl ?_); refine goesL_ (some 11) rfl rfl Try.func17 (by kernel_rfl) rfl #[.slice A1 l1.length c1] rfl (by (try simp only [List.map_toArray, List.map_cons, List.map_nil]); first | done | rfl | (simp only [List.length_drop, List.length_take]; rfl)) ?_; (with_reducible refine (band_Check.calls k _ _ l1 t108 _ ?side1 ?side2 A3.out).mono ?_); (case side1 => repeat (first | exact HR1.out | (with_reducible refine Kd.C_alloc ?_ _) | (with_reducible refine Kd.C_drewN ?_ _) | (with_reducible refine Kd.C_drew ?_))); (case side2 => exact HC1.out); rintro e w7 ⟨rfl, hb⟩; refine ⟨_, rfl, ?_⟩; have n0_ := Aside0.mk (below_step (by repeat (first | (with_reducible first | exact HB.out | apply below_alloc | apply pw_below_drewN | apply below_drew1) | exact HB.out)) hb); clear HB; have HB := n0_; clear n0_; (try clear hb); (try clear hb2); (try clear hk); (try clear hi)) | ((with_reducible refine gate_dst (N := 16) rfl ?_); refine Kd.R_lit (Kd.int .i64) _ 2 ?hg (N := 16) ?hd (xs := ([a0] : List Int)) (inner := [.int .i64 a0]) (ok := fun _ => True) (okp := fun _ => True) ?hr ?hp (fun _ hk => hk) trivial (Below.refl _ _) (Nat.le_refl _) (by simp) ?_; (case hd => rfl); (case hg => rfl); (case hr => first | (go_simp; done) | (go_simp; rfl)); (case hp => exact (Reps.one (show Kd.M (Kd.int .i64) _ _ _ a0 [.int .i64 a0] from rfl) (Reps.none _ _))); intro v110 w8 ho9 hb hg_ hnew_; clear hg_ hnew_; (first | rw [← Ny109.out] at ho9 | (simp only [Int.reduceToNat] at ho9; rw [← Ny109.out] at ho9)); have n0_ := Aside0.mk (Kd.R_lower ho9 (below_size (by repeat (first | (with_reducible first | exact HB.out | apply below_alloc | apply pw_below_drewN | apply below_drew1) | exact HB.out)))); have n1_ := Aside0.mk (below_step (by repeat (first | (with_reducible first | exact HB.out | apply below_alloc | apply pw_below_drewN | apply below_drew1) | exact HB.out)) hb); clear HB; have HO111 := n0_; have HB := n1_; clear n0_ n1_; clear hb ho9; obtain ⟨Ao10, co10, eo10⟩ := Kd.R_slice HO111.out; subst eo10) | ((with_reducible refine gate_callee (f := 42) rfl ?_); refine goesL_ (some 17) rfl rfl Try.func42 (by kernel_rfl) rfl #[.slice Ao10 y109.length co10] rfl (by (try simp only [List.map_toArray, List.map_cons, List.map_nil]); first | done | rfl | (simp only [List.length_drop, List.length_take]; rfl)) ?_; (with_reducible refine (money_Right.calls k _ _ y109 true _ ?side1 ?side2 A5.out).mono ?_); (case side1 => repeat (first | exact (Kd.R_reads' HO111.out).2.2 | (with_reducible refine Kd.C_alloc ?_ _) | (with_reducible refine Kd.C_drewN ?_ _) | (with_reducible refine Kd.C_drew ?_))); (case side2 => exact (Kd.R_reads' HO111.out).2.1); rintro e w' ⟨rfl, ⟨nd, rfl⟩⟩; refine ⟨_, rfl, ?_⟩))
      go_step3
      go_step
      go_step
      refine Go.Proofs.Ytfiomckebicphaa.Lab.wp_label_ghost_k hJ0_ (fun kq a_ w' => ∃ (u2 u3 u4 u5 u6 u7 u8 u9 u10 u11 u12 u13 u14 u15 u16 u17 u18 u19 u20 u21 u22 u23 u24 u25 u26 u27 u28 u29 u30 u31 u32 u33 u34 u35 u36 u37 u38 u39 u40 u41 u42 u43 u44 u45 u46 u47 u48 u49 u50 u51 u52 u53 u54 u55 u56 u57 u58 u59 u60 u61 u62 u63 u64 u65 : Value), (∃ (x7_1 : (Int × Int)) (x8_1 : Int), u7 = .complex .f64 (Flt.FI x7_1.1) (Flt.FI x7_1.2) ∧ u8 = .int .i64 x8_1 ∧ Aside0 (pair_Banded.l0 kq a0 l1 x7_1 x8_1 = some (r1, r2)) ∧ Aside0 (kq ≤ k) ∧ Aside0 (Below w.heap.size w w')) ∧ a_ = { tmps := #[.int .i64 a0, .slice A1 l1.length c1, u2, u3, u4, u5, u6, u7, u8, u9, u10, u11, u12, u13, u14, u15, u16, u17, u18, u19, u20, u21, u22, u23, u24, u25, u26, u27, u28, u29, u30, u31, u32, u33, u34, u35, u36, u37, u38, u39, u40, u41, u42, u43, u44, u45, u46, u47, u48, u49, u50, u51, u52, u53, u54, u55, u56, u57, u58, u59, u60, u61, u62, u63, u64, u65], defers := [] }) k ?atStart ?round
      case atStart => (repeat apply Exists.intro); refine ⟨?_, rfl⟩; exact ⟨((0, 0)), (0), (by first | rfl | (simp; done) | (simp [*]; done)), (by first | rfl | (simp; done) | (simp [*]; done)), H', ⟨Nat.le_refl _⟩, ⟨by repeat (first | (with_reducible first | exact HB.out | apply below_alloc | apply pw_below_drewN | apply below_drew1) | exact HB.out)⟩⟩
      case round =>
        rintro gk _ wr ⟨u2, u3, u4, u5, u6, u7, u8, u9, u10, u11, u12, u13, u14, u15, u16, u17, u18, u19, u20, u21, u22, u23, u24, u25, u26, u27, u28, u29, u30, u31, u32, u33, u34, u35, u36, u37, u38, u39, u40, u41, u42, u43, u44, u45, u46, u47, u48, u49, u50, u51, u52, u53, u54, u55, u56, u57, u58, u59, u60, u61, u62, u63, u64, u65, hrel, rfl⟩ J_ K_ hJ_ hK_
        try dsimp only
        clear H'
        try clear c1
        try clear p2
        try clear c4
        try clear c4b0
        try clear c4b1
        try clear c6
        obtain ⟨x7_1, x8_1, rfl, rfl, HA, HK1, HB⟩ := hrel
        cases gk with
        | zero => exact absurd HA.out (by simp [pair_Banded.l0])
        | succ k1 =>
          have H := HA.out
          clear HA
          simp only [pair_Banded.l0] at H
          have HC11 := Aside0.mk H
          clear H
          go_upto_region 7 with (fail)
          go_cut [31] (fun v31 wc => ∃ (kq : Nat) (x31_10 : Bool), v31 = .bool x31_10 ∧ Aside0 (pair_Banded.j1 kq a0 l1 x7_1 x8_1 x31_10 = some (r1, r2)) ∧ Aside0 (kq ≤ k1) ∧ Aside0 (Below w.heap.size w wc))
          case first =>
            have H := HC11.out
            clear HC11
            by_cases c12 : x8_1 = (l1.length : Int)
            · rw [if_pos c12] at H
              have c12b0 : (x8_1 == (l1.length : Int)) = true := beq_iff_eq.mpr c12
              have c12b1 : (x8_1 != (l1.length : Int)) = false := bne_eq_false_iff_eq.mpr c12
              clear c12
              (first | rw [c12b0] | (simp only [i64_w, i32_w]; rw [c12b0]) | skip)
              have H' := Aside0.mk H
              clear H
              go_wp2
              go_meet
              case rel => exact ⟨_, (true), (by first | rfl | (simp; done) | (simp [*]; done)), H', ⟨by have := HK1.out; first | omega | exact Nat.le_refl _⟩, ⟨by repeat (first | (with_reducible first | exact HB.out | apply below_alloc | apply pw_below_drewN | apply below_drew1) | exact HB.out)⟩⟩
            · rw [if_neg c12] at H
              have c12b0 : (x8_1 == (l1.length : Int)) = false := beq_eq_false_iff_ne.mpr c12
              have c12b1 : (x8_1 != (l1.length : Int)) = true := bne_iff_ne.mpr c12
              (first | rw [c12b0] | (simp only [i64_w, i32_w]; rw [c12b0]) | skip)
              by_cases c13 : 0 ≤ x8_1
              · rw [if_pos c13] at H
                have c13b0 : decide (0 ≤ x8_1) = true := decide_eq_true c13
                clear c13
                by_cases c14 : x8_1 < (l1.length : Int)
                · rw [if_pos c14] at H
                  have c14b0 : decide (x8_1 < (l1.length : Int)) = true := decide_eq_true c14
                  clear c14
                  have H' := Aside0.mk H
                  clear H
                  have p113 : 0 ≤ (x8_1 : Int) := of_decide_eq_true (by first | (with_reducible assumption) | assumption)
                  have q113 : x8_1 < (l1.length : Int) := of_decide_eq_true (by first | (with_reducible assumption) | assumption)
                  obtain ⟨ad113, e113, hx113_0, hx113_1, hx113_2⟩ := at_T30 HR1.out x8_1 p113 q113
                  cases e113
                  replace hx113_0 := (HB.out.cell (World.block_lt_of_cell? w _ hx113_0)).trans hx113_0
                  replace hx113_1 := (HB.out.cell (World.block_lt_of_cell? w _ hx113_1)).trans hx113_1
                  replace hx113_2 := (HB.out.cell (World.block_lt_of_cell? w _ hx113_2)).trans hx113_2
                  replace p113 := eq_true p113
                  replace q113 := eq_true q113
                  go_wp2
                  go_meet
                  case rel => exact ⟨_, (decide (a0 ≤ ((rd_T30 l1 x8_1).f0))), (by first | rfl | (simp; done) | (simp [*]; done)), H', ⟨by have := HK1.out; first | omega | exact Nat.le_refl _⟩, ⟨by repeat (first | (with_reducible first | exact HB.out | apply below_alloc | apply pw_below_drewN | apply below_drew1) | exact HB.out)⟩⟩
                · rw [if_neg c14] at H
                  exact absurd H (by simp)
              · rw [if_neg c13] at H
                exact absurd H (by simp)
          case rest =>
            clear HC11
            try clear c1
            try clear p1
            try clear q1
            try clear hx1
            try clear p2
            try clear c4
            try clear c4b0
            try clear c4b1
            try clear c6
            try clear p11
            try clear q11
            try clear hx11
            try clear c12
            try clear c12b0
            try clear c12b1
            try clear c13
            try clear c13b0
            try clear c14
            try clear c14b0
            try clear hx113_0
            try clear hx113_1
            try clear hx113_2
            try clear p113
            try clear p2
            try clear q113
            obtain ⟨kq, x31_10, rfl, HA, HJ10, HB⟩ := hcut
            cases kq with
            | zero => exact absurd HA.out (by simp [pair_Banded.j1])
            | succ kj10 =>
              have H := HA.out
              clear HA
              simp only [pair_Banded.j1] at H
              by_cases c15 : x31_10 = true
              · subst c15
                have H1 : (some (x7_1, 0)) = some (r1, r2) := by rw [if_pos rfl] at H; exact H
                clear H
                have H := H1
                clear H1
                simp only [Option.some.injEq, Prod.mk.injEq] at H
                obtain ⟨rfl, rfl⟩ := H
                go_wp2
                (try simp only [Go.Exit.jump])
                go_ret2
                exact ⟨by first | rfl | (simp [errW_none, errW_some] <;> rfl) | (simp [*, errW_none, errW_some] <;> rfl), by repeat (first | (with_reducible first | exact HB.out | apply below_alloc | apply pw_below_drewN | apply below_drew1) | exact HB.out)⟩
              · replace c15 := Bool.eq_false_iff.mpr c15
                subst c15
                have H1 : (if (wrap64 (x8_1 + 1)) < (l1.length : Int) then (if 0 ≤ (wrap64 (x8_1 + 1)) then (if 0 ≤ x8_1 then (if x8_1 < (l1.length : Int) then (if Flt.fok (wrap64 ((mn a0 ((rd_T30 l1 (wrap64 (x8_1 + 1))).f0)) - ((rd_T30 l1 x8_1).f0))) = true then ((pair_rates.f ((rd_T30 l1 x8_1).f0) ((rd_T30 l1 x8_1).f1) ((rd_T30 l1 x8_1).f2)).bind fun t117 => (if Flt.fmul (wrap64 ((mn a0 ((rd_T30 l1 (wrap64 (x8_1 + 1))).f0)) - ((rd_T30 l1 x8_1).f0))) t117.1 t117.2 = true then (if Flt.fadd x7_1.1 x7_1.2 ((wrap64 ((mn a0 ((rd_T30 l1 (wrap64 (x8_1 + 1))).f0)) - ((rd_T30 l1 x8_1).f0))) * t117.1) ((wrap64 ((mn a0 ((rd_T30 l1 (wrap64 (x8_1 + 1))).f0)) - ((rd_T30 l1 x8_1).f0))) * t117.2) = true then (pair_Banded.l0 kj10 a0 l1 (x7_1.1 + ((wrap64 ((mn a0 ((rd_T30 l1 (wrap64 (x8_1 + 1))).f0)) - ((rd_T30 l1 x8_1).f0))) * t117.1), x7_1.2 + ((wrap64 ((mn a0 ((rd_T30 l1 (wrap64 (x8_1 + 1))).f0)) - ((rd_T30 l1 x8_1).f0))) * t117.2)) (wrap64 (x8_1 + 1))) else (none)) else (none))) else (none)) else (none)) else (none)) else (none)) else (if 0 ≤ x8_1 then (if x8_1 < (l1.length : Int) then (if Flt.fok (wrap64 (a0 - ((rd_T30 l1 x8_1).f0))) = true then ((pair_rates.f ((rd_T30 l1 x8_1).f0) ((rd_T30 l1 x8_1).f1) ((rd_T30 l1 x8_1).f2)).bind fun t120 => (if Flt.fmul (wrap64 (a0 - ((rd_T30 l1 x8_1).f0))) t120.1 t120.2 = true then (if Flt.fadd x7_1.1 x7_1.2 ((wrap64 (a0 - ((rd_T30 l1 x8_1).f0))) * t120.1) ((wrap64 (a0 - ((rd_T30 l1 x8_1).f0))) * t120.2) = true then (pair_Banded.l0 kj10 a0 l1 (x7_1.1 + ((wrap64 (a0 - ((rd_T30 l1 x8_1).f0))) * t120.1), x7_1.2 + ((wrap64 (a0 - ((rd_T30 l1 x8_1).f0))) * t120.2)) (wrap64 (x8_1 + 1))) else (none)) else (none))) else (none)) else (none)) else (none))) = some (r1, r2) := by rw [if_neg (show ¬ (false = true) by decide)] at H; exact H
                clear H
                have H := H1
                clear H1
                by_cases c16 : (wrap64 (x8_1 + 1)) < (l1.length : Int)
                · rw [if_pos c16] at H
                  have c16b0 : decide ((wrap64 (x8_1 + 1)) < (l1.length : Int)) = true := decide_eq_true c16
                  clear c16
                  obtain ⟨ji17, hji17⟩ : ∃ j_ : Int, (wrap64 (x8_1 + 1)) = j_ := ⟨_, rfl⟩
                  replace H : (if 0 ≤ (ji17) then (if 0 ≤ x8_1 then (if x8_1 < (l1.length : Int) then (if Flt.fok (wrap64 ((mn a0 ((rd_T30 l1 (ji17)).f0)) - ((rd_T30 l1 x8_1).f0))) = true then ((pair_rates.f ((rd_T30 l1 x8_1).f0) ((rd_T30 l1 x8_1).f1) ((rd_T30 l1 x8_1).f2)).bind fun t117 => (if Flt.fmul (wrap64 ((mn a0 ((rd_T30 l1 (ji17)).f0)) - ((rd_T30 l1 x8_1).f0))) t117.1 t117.2 = true then (if Flt.fadd x7_1.1 x7_1.2 ((wrap64 ((mn a0 ((rd_T30 l1 (ji17)).f0)) - ((rd_T30 l1 x8_1).f0))) * t117.1) ((wrap64 ((mn a0 ((rd_T30 l1 (ji17)).f0)) - ((rd_T30 l1 x8_1).f0))) * t117.2) = true then (pair_Banded.l0 kj10 a0 l1 (x7_1.1 + ((wrap64 ((mn a0 ((rd_T30 l1 (ji17)).f0)) - ((rd_T30 l1 x8_1).f0))) * t117.1), x7_1.2 + ((wrap64 ((mn a0 ((rd_T30 l1 (ji17)).f0)) - ((rd_T30 l1 x8_1).f0))) * t117.2)) ji17) else (none)) else (none))) else (none)) else (none)) else (none)) else (none)) = some (r1, r2) := by first | (rw [hji17] at H; exact H) | (simp only [hji17] at H ⊢; exact H)
                  (try rw [hji17] at c16b0)
                  have hji17w : (IntKind.i64.wrap (x8_1 + 1)) = ji17 := (i64_w _).trans hji17
                  by_cases c18 : 0 ≤ (ji17)
                  · rw [if_pos c18] at H
                    have c18b0 : decide (0 ≤ (ji17)) = true := decide_eq_true c18
                    clear c18
                    obtain ⟨ji19, hji19⟩ : ∃ j_ : Int, (mn a0 ((rd_T30 l1 (ji17)).f0)) = j_ := ⟨_, rfl⟩
                    replace H : (if 0 ≤ x8_1 then (if x8_1 < (l1.length : Int) then (if Flt.fok (wrap64 ((ji19) - ((rd_T30 l1 x8_1).f0))) = true then ((pair_rates.f ((rd_T30 l1 x8_1).f0) ((rd_T30 l1 x8_1).f1) ((rd_T30 l1 x8_1).f2)).bind fun t117 => (if Flt.fmul (wrap64 ((ji19) - ((rd_T30 l1 x8_1).f0))) t117.1 t117.2 = true then (if Flt.fadd x7_1.1 x7_1.2 ((wrap64 ((ji19) - ((rd_T30 l1 x8_1).f0))) * t117.1) ((wrap64 ((ji19) - ((rd_T30 l1 x8_1).f0))) * t117.2) = true then (pair_Banded.l0 kj10 a0 l1 (x7_1.1 + ((wrap64 ((ji19) - ((rd_T30 l1 x8_1).f0))) * t117.1), x7_1.2 + ((wrap64 ((ji19) - ((rd_T30 l1 x8_1).f0))) * t117.2)) ji17) else (none)) else (none))) else (none)) else (none)) else (none)) = some (r1, r2) := by first | (rw [hji19] at H; exact H) | (simp only [hji19] at H ⊢; exact H)
                    have hji19_ : (if ((rd_T30 l1 (ji17)).f0) < a0 then ((rd_T30 l1 (ji17)).f0) else a0) = ji19 := hji19
                    by_cases c20 : 0 ≤ x8_1
                    · rw [if_pos c20] at H
                      have c20b0 : decide (0 ≤ x8_1) = true := decide_eq_true c20
                      clear c20
                      by_cases c21 : x8_1 < (l1.length : Int)
                      · rw [if_pos c21] at H
                        have c21b0 : decide (x8_1 < (l1.length : Int)) = true := decide_eq_true c21
                        clear c21
                        by_cases c22 : Flt.fok (wrap64 ((ji19) - ((rd_T30 l1 x8_1).f0))) = true
                        · rw [if_pos c22] at H
                          have c22b0 : Flt.fok (wrap64 ((ji19) - ((rd_T30 l1 x8_1).f0))) = true := c22
                          have hfc22_0 := Flt.conv_if (P := Try.prog) Try.underlying2 Try.underlying93 (of_decide_eq_true c22b0)
                          have hfc22_1 := Flt.conv_if (P := Try.prog) Try.underlying3 Try.underlying93 (of_decide_eq_true c22b0)
                          have hfc22_2 := Flt.conv_fi (P := Try.prog) Try.underlying93 Try.underlying2 (of_decide_eq_true c22b0)
                          have hfc22_3 := Flt.order_least_I (of_decide_eq_true c22b0)
                          have hfc22_4 := Flt.order_most (of_decide_eq_true c22b0)
                          have hfc22_5 := Flt.order_self (of_decide_eq_true c22b0)
                          clear c22
                          replace H := Option.bind_eq_some_iff.mp H
                          obtain ⟨t117, A230, H⟩ := H
                          replace H : (if Flt.fmul (wrap64 ((ji19) - ((rd_T30 l1 x8_1).f0))) t117.1 t117.2 = true then (if Flt.fadd x7_1.1 x7_1.2 ((wrap64 ((ji19) - ((rd_T30 l1 x8_1).f0))) * t117.1) ((wrap64 ((ji19) - ((rd_T30 l1 x8_1).f0))) * t117.2) = true then (pair_Banded.l0 kj10 a0 l1 (x7_1.1 + ((wrap64 ((ji19) - ((rd_T30 l1 x8_1).f0))) * t117.1), x7_1.2 + ((wrap64 ((ji19) - ((rd_T30 l1 x8_1).f0))) * t117.2)) ji17) else (none)) else (none)) = some (r1, r2) := H
                          have A23 := Aside0.mk A230
                          clear A230
                          by_cases c24 : Flt.fmul (wrap64 ((ji19) - ((rd_T30 l1 x8_1).f0))) t117.1 t117.2 = true
                          · rw [if_pos c24] at H
                            have c24b0 : Flt.fmul (wrap64 ((ji19) - ((rd_T30 l1 x8_1).f0))) t117.1 t117.2 = true := c24
                            have hfc24_0 := Flt.mul_c (P := Try.prog) (t := 24) (of_decide_eq_true c24b0)
                            have hfc24_1 := Flt.mul_c (P := Try.prog) (t := 25) (of_decide_eq_true c24b0)
                            clear c24
                            by_cases c25 : Flt.fadd x7_1.1 x7_1.2 ((wrap64 ((ji19) - ((rd_T30 l1 x8_1).f0))) * t117.1) ((wrap64 ((ji19) - ((rd_T30 l1 x8_1).f0))) * t117.2) = true
                            · rw [if_pos c25] at H
                              have c25b0 : Flt.fadd x7_1.1 x7_1.2 ((wrap64 ((ji19) - ((rd_T30 l1 x8_1).f0))) * t117.1) ((wrap64 ((ji19) - ((rd_T30 l1 x8_1).f0))) * t117.2) = true := c25
                              have hfc25_0 := Flt.add_c (P := Try.prog) (t := 24) (of_decide_eq_true c25b0)
                              have hfc25_1 := Flt.add_c (P := Try.prog) (t := 25) (of_decide_eq_true c25b0)
                              clear c25
                              have H' := Aside0.mk H
                              clear H
                              have p114 : 0 ≤ ((ji17) : Int) := of_decide_eq_true (by first | (with_reducible assumption) | assumption)
                              have q114 : (ji17) < (l1.length : Int) := of_decide_eq_true (by first | (with_reducible assumption) | assumption)
                              obtain ⟨ad114, e114, hx114_0, hx114_1, hx114_2⟩ := at_T30 HR1.out (ji17) p114 q114
                              cases e114
                              replace hx114_0 := (HB.out.cell (World.block_lt_of_cell? w _ hx114_0)).trans hx114_0
                              replace hx114_1 := (HB.out.cell (World.block_lt_of_cell? w _ hx114_1)).trans hx114_1
                              replace hx114_2 := (HB.out.cell (World.block_lt_of_cell? w _ hx114_2)).trans hx114_2
                              replace p114 := eq_true p114
                              replace q114 := eq_true q114
                              try go_wp2
                              have n0_ := Aside0.mk (below_drew1 HB.out)
                              clear HB
                              have HB := n0_
                              clear n0_
                              have p115 : 0 ≤ (x8_1 : Int) := of_decide_eq_true (by first | (with_reducible assumption) | assumption)
                              have q115 : x8_1 < (l1.length : Int) := of_decide_eq_true (by first | (with_reducible assumption) | assumption)
                              obtain ⟨ad115, e115, hx115_0, hx115_1, hx115_2⟩ := at_T30 HR1.out x8_1 p115 q115
                              have hw115_2 := hx115_2
                              have hw115_1 := hx115_1
                              have hw115_0 := hx115_0
                              obtain rfl : ad114 = ad115 := (by injection e115)
                              replace hx115_0 := (HB.out.cell (World.block_lt_of_cell? w _ hx115_0)).trans hx115_0
                              replace hx115_1 := (HB.out.cell (World.block_lt_of_cell? w _ hx115_1)).trans hx115_1
                              replace hx115_2 := (HB.out.cell (World.block_lt_of_cell? w _ hx115_2)).trans hx115_2
                              replace p115 := eq_true p115
                              replace q115 := eq_true q115
                              have p116 : 0 ≤ (x8_1 : Int) := of_decide_eq_true (by first | (with_reducible assumption) | assumption)
                              have q116 : x8_1 < (l1.length : Int) := of_decide_eq_true (by first | (with_reducible assumption) | assumption)
                              obtain ⟨ad116, e116, hx116_0, hx116_1, hx116_2⟩ := at_T30 HR1.out x8_1 p116 q116
                              have hw116_2 := hx116_2
                              have hw116_1 := hx116_1
                              have hw116_0 := hx116_0
                              obtain rfl : ad114 = ad116 := (by injection e116)
                              replace hx116_0 := (HB.out.cell (World.block_lt_of_cell? w _ hx116_0)).trans hx116_0
                              replace hx116_1 := (HB.out.cell (World.block_lt_of_cell? w _ hx116_1)).trans hx116_1
                              replace hx116_2 := (HB.out.cell (World.block_lt_of_cell? w _ hx116_2)).trans hx116_2
                              replace p116 := eq_true p116
                              replace q116 := eq_true q116
                              refine start_ (n := 18) (S := fun w' => w'.cell? (ad114.add ((x8_1).toNat * 3)) = some (.int .i64 ((rd_T30 l1 x8_1).f0)) ∧ w'.cell? ⟨(ad114.add ((x8_1).toNat * 3)).block, (ad114.add ((x8_1).toNat * 3)).off + 1, none⟩ = some (.int .i64 ((rd_T30 l1 x8_1).f1)) ∧ w'.cell? ⟨(ad114.add ((x8_1).toNat * 3)).block, (ad114.add ((x8_1).toNat * 3)).off + 2, none⟩ = some (.int .i64 ((rd_T30 l1 x8_1).f2)) ∧ w'.cell? (ad114.add ((x8_1).toNat * 3)) = some (.int .i64 ((rd_T30 l1 x8_1).f0)) ∧ w'.cell? ⟨(ad114.add ((x8_1).toNat * 3)).block, (ad114.add ((x8_1).toNat * 3)).off + 1, none⟩ = some (.int .i64 ((rd_T30 l1 x8_1).f1)) ∧ w'.cell? ⟨(ad114.add ((x8_1).toNat * 3)).block, (ad114.add ((x8_1).toNat * 3)).off + 2, none⟩ = some (.int .i64 ((rd_T30 l1 x8_1).f2))) (ds := []) #[false, false, false, false, false, false, false, false, false, false, false, false, false, false, false, false, false, false] (by kernel_rfl) rfl rfl ⟨((HB.out.cell (World.block_lt_of_cell? w _ hw115_0)).trans hw115_0), ((HB.out.cell (World.block_lt_of_cell? w _ hw115_1)).trans hw115_1), ((HB.out.cell (World.block_lt_of_cell? w _ hw115_2)).trans hw115_2), ((HB.out.cell (World.block_lt_of_cell? w _ hw116_0)).trans hw116_0), ((HB.out.cell (World.block_lt_of_cell? w _ hw116_1)).trans hw116_1), ((HB.out.cell (World.block_lt_of_cell? w _ hw116_2)).trans hw116_2)⟩ (fun hHeld => ?_); refine with_tabW pair_Banded.tab12 pair_Banded.bits12 (fun HT_ HW_ => ?_)
                              generalize wc.drew = w26 at HB hx115_0 hx115_1 hx115_2 hx116_0 hx116_1 hx116_2 hHeld ⊢
                              refine pure_ (i := 0) (N := some 47) (v := ?_) (a' := ?_) #[true, false, false, false, false, false, false, false, false, false, false, false, false, false, false, false, false, false] rfl rfl (any_of HT_.out (by kernel_rfl)) (fun _ _ _ h => h) (Or.inl ⟨by rfl, ?_⟩) ?_ ?_
                              rotate_left
                              · intro w'
                                go_simp
                                with_reducible rfl
                              rotate_left
                              · simp only [Act.put, List.setIfInBounds_toArray, List.set_cons_zero, List.set_cons_succ, i64_w, i32_w]
                                rfl
                              refine pure_ (i := 1) (N := some 48) (v := ?_) (a' := ?_) #[true, true, false, false, false, false, false, false, false, false, false, false, false, false, false, false, false, false] rfl rfl (any_of HT_.out (by kernel_rfl)) (fun _ _ _ h => h) (Or.inl ⟨by rfl, ?_⟩) ?_ ?_
                              rotate_left
                              · intro w'
                                go_simp
                                with_reducible rfl
                              rotate_left
                              · simp only [Act.put, List.setIfInBounds_toArray, List.set_cons_zero, List.set_cons_succ, i64_w, i32_w]
                                rfl
                              refine pure_ (i := 2) (N := some 49) (v := ?_) (a' := ?_) #[true, true, true, false, false, false, false, false, false, false, false, false, false, false, false, false, false, false] rfl rfl (any_of HT_.out (by kernel_rfl)) (fun _ _ _ h => h) (Or.inl ⟨by rfl, ?_⟩) ?_ ?_
                              rotate_left
                              · intro w'
                                go_simp
                                with_reducible rfl
                              rotate_left
                              · simp only [Act.put, List.setIfInBounds_toArray, List.set_cons_zero, List.set_cons_succ, i64_w, i32_w]
                                rfl
                              refine pure_ (i := 3) (N := some 50) (v := ?_) (a' := ?_) #[true, true, true, true, false, false, false, false, false, false, false, false, false, false, false, false, false, false] rfl rfl (any_of HT_.out (by kernel_rfl)) (fun _ _ _ h => h) (Or.inl ⟨by rfl, ?_⟩) ?_ ?_
                              rotate_left
                              · intro w'
                                go_simp
                                with_reducible rfl
                              rotate_left
                              · simp only [Act.put, List.setIfInBounds_toArray, List.set_cons_zero, List.set_cons_succ, i64_w, i32_w]
                                rfl
                              refine pure_ (i := 4) (N := some 51) (v := ?_) (a' := ?_) #[true, true, true, true, true, false, false, false, false, false, false, false, false, false, false, false, false, false] rfl rfl (any_of HT_.out (by kernel_rfl)) (fun _ _ _ h => h) (Or.inl ⟨by rfl, ?_⟩) ?_ ?_
                              rotate_left
                              · intro w'
                                go_simp
                                with_reducible rfl
                              rotate_left
                              · simp only [Act.put, List.setIfInBounds_toArray, List.set_cons_zero, List.set_cons_succ, i64_w, i32_w]
                                rfl
                              refine pure_ (i := 5) (N := some 52) (v := ?_) (a' := ?_) #[true, true, true, true, true, true, false, false, false, false, false, false, false, false, false, false, false, false] rfl rfl (any_of HT_.out (by kernel_rfl)) (fun _ _ _ h => h) (Or.inl ⟨by rfl, ?_⟩) ?_ ?_
                              rotate_left
                              · intro w'
                                go_simp
                                with_reducible rfl
                              rotate_left
                              · simp only [Act.put, List.setIfInBounds_toArray, List.set_cons_zero, List.set_cons_succ, i64_w, i32_w]
                                rfl
                              refine pure_ (i := 10) (N := some 57) (v := ?_) (a' := ?_) #[true, true, true, true, true, true, false, false, false, false, true, false, false, false, false, false, false, false] rfl rfl (any_of HT_.out (by kernel_rfl)) (fun _ _ _ h => h) (Or.inl ⟨by rfl, ?_⟩) ?_ ?_
                              rotate_left
                              · intro w'
                                go_simp
                                with_reducible rfl
                              rotate_left
                              · simp only [Act.put, List.setIfInBounds_toArray, List.set_cons_zero, List.set_cons_succ, i64_w, i32_w]
                                rfl
                              refine pure_ (i := 11) (N := some 58) (v := ?_) (a' := ?_) #[true, true, true, true, true, true, false, false, false, false, true, true, false, false, false, false, false, false] rfl rfl (any_of HT_.out (by kernel_rfl)) (fun _ _ _ h => h) (Or.inl ⟨by rfl, ?_⟩) ?_ ?_
                              rotate_left
                              · intro w'
                                go_simp
                                with_reducible rfl
                              rotate_left
                              · simp only [Act.put, List.setIfInBounds_toArray, List.set_cons_zero, List.set_cons_succ, i64_w, i32_w]
                                rfl
                              refine pure_ (i := 12) (N := some 59) (v := ?_) (a' := ?_) #[true, true, true, true, true, true, false, false, false, false, true, true, true, false, false, false, false, false] rfl rfl (any_of HT_.out (by kernel_rfl)) (fun _ _ _ h => h) (Or.inl ⟨by rfl, ?_⟩) ?_ ?_
                              rotate_left
                              · intro w'
                                go_simp
                                with_reducible rfl
                              rotate_left
                              · simp only [Act.put, List.setIfInBounds_toArray, List.set_cons_zero, List.set_cons_succ, i64_w, i32_w]
                                rfl
                              refine take_ (i := 6) (N := some 53) (v := ?_) (a' := ?_) #[true, true, true, true, true, true, true, false, false, false, true, true, true, false, false, false, false, false] rfl rfl (take_ofW HT_.out HW_.out (by kernel_rfl)) (fun _ _ _ h => h) (Or.inl ⟨by rfl, ?_⟩) hHeld ?_ ?_
                              rotate_left
                              · rintro w' ⟨s0, s1, s2, s3, s4, s5⟩
                                go_simp
                                with_reducible rfl
                              rotate_left
                              · simp only [Act.put, List.setIfInBounds_toArray, List.set_cons_zero, List.set_cons_succ, i64_w, i32_w]
                                rfl
                              refine pure_ (i := 7) (N := some 54) (v := ?_) (a' := ?_) #[true, true, true, true, true, true, true, true, false, false, true, true, true, false, false, false, false, false] rfl rfl (any_of HT_.out (by kernel_rfl)) (fun _ _ _ h => h) (Or.inl ⟨by rfl, ?_⟩) ?_ ?_
                              rotate_left
                              · intro w'
                                go_simp
                                with_reducible rfl
                              rotate_left
                              · simp only [Act.put, List.setIfInBounds_toArray, List.set_cons_zero, List.set_cons_succ, i64_w, i32_w]
                                rfl
                              refine pure_ (i := 8) (N := some 55) (v := ?_) (a' := ?_) #[true, true, true, true, true, true, true, true, true, false, true, true, true, false, false, false, false, false] rfl rfl (any_of HT_.out (by kernel_rfl)) (fun _ _ _ h => h) (Or.inl ⟨by rfl, ?_⟩) ?_ ?_
                              rotate_left
                              · intro w'
                                go_simp
                                with_reducible rfl
                              rotate_left
                              · simp only [Act.put, List.setIfInBounds_toArray, List.set_cons_zero, List.set_cons_succ, i64_w, i32_w]
                                rfl
                              refine pure_ (i := 9) (N := some 56) (v := ?_) (a' := ?_) #[true, true, true, true, true, true, true, true, true, true, true, true, true, false, false, false, false, false] rfl rfl (any_of HT_.out (by kernel_rfl)) (fun _ _ _ h => h) (Or.inl ⟨by rfl, ?_⟩) ?_ ?_
                              rotate_left
                              · intro w'
                                go_simp
                                with_reducible rfl
                              rotate_left
                              · simp only [Act.put, List.setIfInBounds_toArray, List.set_cons_zero, List.set_cons_succ, i64_w, i32_w]
                                rfl
                              refine take_ (i := 13) (N := some 60) (v := ?_) (a' := ?_) #[true, true, true, true, true, true, true, true, true, true, true, true, true, true, false, false, false, false] rfl rfl (take_ofW HT_.out HW_.out (by kernel_rfl)) (fun _ _ _ h => h) (Or.inl ⟨by rfl, ?_⟩) hHeld ?_ ?_
                              rotate_left
                              · rintro w' ⟨s0, s1, s2, s3, s4, s5⟩
                                go_simp
                                with_reducible rfl
                              rotate_left
                              · simp only [Act.put, List.setIfInBounds_toArray, List.set_cons_zero, List.set_cons_succ, i64_w, i32_w]
                                rfl
                              refine one_ (i := 14) (N := some 61) #[true, true, true, true, true, true, true, true, true, true, true, true, true, true, true, false, false, false] rfl rfl (one_of HT_.out (by kernel_rfl)) (by decide) (fun K hK => ?_)
                              refine goes_ Try.func43 (by kernel_rfl) rfl #[.agg #[.int .i64 ((rd_T30 l1 x8_1).f0), .int .i64 ((rd_T30 l1 x8_1).f1), .int .i64 ((rd_T30 l1 x8_1).f2)]] (by rfl) rfl rfl (by (try simp only [List.map_toArray, List.map_cons, List.map_nil]); first | done | rfl | (simp only [List.length_drop, List.length_take]; rfl)) ?_
                              with_reducible refine (pair_rates.calls ((rd_T30 l1 x8_1).f0) ((rd_T30 l1 x8_1).f1) ((rd_T30 l1 x8_1).f2) t117 _ A23.out).mono ?_
                              rintro e w27 ⟨rfl, hb⟩
                              refine ⟨_, rfl, ?_⟩
                              have n0_ := Aside0.mk (below_step (by repeat (first | (with_reducible first | exact HB.out | apply below_alloc | apply pw_below_drewN | apply below_drew1) | exact HB.out)) hb)
                              clear HB
                              have HB := n0_
                              clear n0_
                              (try clear hb)
                              (try clear hb2)
                              (try clear hk)
                              (try clear hi)
                              refine hK.out _ _ ⟨((HB.out.cell (World.block_lt_of_cell? w _ hw115_0)).trans hw115_0), ((HB.out.cell (World.block_lt_of_cell? w _ hw115_1)).trans hw115_1), ((HB.out.cell (World.block_lt_of_cell? w _ hw115_2)).trans hw115_2), ((HB.out.cell (World.block_lt_of_cell? w _ hw116_0)).trans hw116_0), ((HB.out.cell (World.block_lt_of_cell? w _ hw116_1)).trans hw116_1), ((HB.out.cell (World.block_lt_of_cell? w _ hw116_2)).trans hw116_2)⟩ (fun hHeld => ?_)
                              clear hK K
                              refine norm_ (a' := ?_) ?_ ?_
                              rotate_left
                              · show Act.put _ (some 61) _ = _
                                simp only [Act.put, List.setIfInBounds_toArray, List.set_cons_zero, List.set_cons_succ, i64_w, i32_w]
                                rfl
                              refine pure_ (i := 15) (N := some 62) (v := ?_) (a' := ?_) #[true, true, true, true, true, true, true, true, true, true, true, true, true, true, true, true, false, false] rfl rfl (any_of HT_.out (by kernel_rfl)) (fun _ _ _ h => h) (Or.inl ⟨by rfl, ?_⟩) ?_ ?_
                              rotate_left
                              · intro w'
                                go_simp
                                with_reducible rfl
                              rotate_left
                              · simp only [Act.put, List.setIfInBounds_toArray, List.set_cons_zero, List.set_cons_succ, i64_w, i32_w]
                                rfl
                              refine pure_ (i := 16) (N := some 63) (v := ?_) (a' := ?_) #[true, true, true, true, true, true, true, true, true, true, true, true, true, true, true, true, true, false] rfl rfl (any_of HT_.out (by kernel_rfl)) (fun _ _ _ h => h) (Or.inl ⟨by rfl, ?_⟩) ?_ ?_
                              rotate_left
                              · intro w'
                                go_simp
                                with_reducible rfl
                              rotate_left
                              · simp only [Act.put, List.setIfInBounds_toArray, List.set_cons_zero, List.set_cons_succ, i64_w, i32_w]
                                rfl
                              refine pure_ (i := 17) (N := some 7) (v := ?_) (a' := ?_) #[true, true, true, true, true, true, true, true, true, true, true, true, true, true, true, true, true, true] rfl rfl (any_of HT_.out (by kernel_rfl)) (fun _ _ _ h => h) (Or.inl ⟨by rfl, ?_⟩) ?_ ?_
                              rotate_left
                              · intro w'
                                go_simp
                                with_reducible rfl
                              rotate_left
                              · simp only [Act.put, List.setIfInBounds_toArray, List.set_cons_zero, List.set_cons_succ, i64_w, i32_w]
                                rfl
                              refine done_ (done_of HT_.out (by kernel_rfl)) ?_
                              try go_wp2
                              go_step3
                              show (0 : Nat) = 0 ∧ K_ _ _
                              refine ⟨rfl, hK_ _ _ (Go.Handed.intro kj10 ?measure (hJ_ _ _ _ ?_))⟩
                              rotate_left
                              (repeat apply Exists.intro)
                              refine ⟨?rel, rfl⟩
                              case measure => have := HK1.out; have := HJ10.out; omega
                              case rel => exact ⟨((x7_1.1 + ((wrap64 ((ji19) - ((rd_T30 l1 x8_1).f0))) * t117.1), x7_1.2 + ((wrap64 ((ji19) - ((rd_T30 l1 x8_1).f0))) * t117.2))), (ji17), (by first | rfl | (simp; done) | (simp only [← hji19] <;> (first | rfl | simp)) | (simp [*]; done)), (by first | rfl | (simp; done) | (simp only [← hji17] <;> (first | rfl | simp)) | (simp [*]; done)), H', ⟨by have := HK1.out; have := HJ10.out; omega⟩, ⟨by repeat (first | (with_reducible first | exact HB.out | apply below_alloc | apply pw_below_drewN | apply below_drew1) | exact HB.out)⟩⟩
                            · rw [if_neg c25] at H
                              exact absurd H (by simp)
                          · rw [if_neg c24] at H
                            exact absurd H (by simp)
                        · rw [if_neg c22] at H
                          exact absurd H (by simp)
                      · rw [if_neg c21] at H
                        exact absurd H (by simp)
                    · rw [if_neg c20] at H
                      exact absurd H (by simp)
                  · rw [if_neg c18] at H
                    exact absurd H (by simp)
                · rw [if_neg c16] at H
                  have c16b0 : decide ((wrap64 (x8_1 + 1)) < (l1.length : Int)) = false := decide_eq_false c16
                  clear c16
                  by_cases c28 : 0 ≤ x8_1
                  · rw [if_pos c28] at H
                    have c28b0 : decide (0 ≤ x8_1) = true := decide_eq_true c28
                    clear c28
                    by_cases c29 : x8_1 < (l1.length : Int)
                    · rw [if_pos c29] at H
                      have c29b0 : decide (x8_1 < (l1.length : Int)) = true := decide_eq_true c29
                      clear c29
                      by_cases c30 : Flt.fok (wrap64 (a0 - ((rd_T30 l1 x8_1).f0))) = true
                      · rw [if_pos c30] at H
                        have c30b0 : Flt.fok (wrap64 (a0 - ((rd_T30 l1 x8_1).f0))) = true := c30
                        have hfc30_0 := Flt.conv_if (P := Try.prog) Try.underlying2 Try.underlying93 (of_decide_eq_true c30b0)
                        have hfc30_1 := Flt.conv_if (P := Try.prog) Try.underlying3 Try.underlying93 (of_decide_eq_true c30b0)
                        have hfc30_2 := Flt.conv_fi (P := Try.prog) Try.underlying93 Try.underlying2 (of_decide_eq_true c30b0)
                        have hfc30_3 := Flt.order_least_I (of_decide_eq_true c30b0)
                        have hfc30_4 := Flt.order_most (of_decide_eq_true c30b0)
                        have hfc30_5 := Flt.order_self (of_decide_eq_true c30b0)
                        clear c30
                        replace H := Option.bind_eq_some_iff.mp H
                        obtain ⟨t120, A310, H⟩ := H
                        replace H : (if Flt.fmul (wrap64 (a0 - ((rd_T30 l1 x8_1).f0))) t120.1 t120.2 = true then (if Flt.fadd x7_1.1 x7_1.2 ((wrap64 (a0 - ((rd_T30 l1 x8_1).f0))) * t120.1) ((wrap64 (a0 - ((rd_T30 l1 x8_1).f0))) * t120.2) = true then (pair_Banded.l0 kj10 a0 l1 (x7_1.1 + ((wrap64 (a0 - ((rd_T30 l1 x8_1).f0))) * t120.1), x7_1.2 + ((wrap64 (a0 - ((rd_T30 l1 x8_1).f0))) * t120.2)) (wrap64 (x8_1 + 1))) else (none)) else (none)) = some (r1, r2) := H
                        have A31 := Aside0.mk A310
                        clear A310
                        by_cases c32 : Flt.fmul (wrap64 (a0 - ((rd_T30 l1 x8_1).f0))) t120.1 t120.2 = true
                        · rw [if_pos c32] at H
                          have c32b0 : Flt.fmul (wrap64 (a0 - ((rd_T30 l1 x8_1).f0))) t120.1 t120.2 = true := c32
                          have hfc32_0 := Flt.mul_c (P := Try.prog) (t := 24) (of_decide_eq_true c32b0)
                          have hfc32_1 := Flt.mul_c (P := Try.prog) (t := 25) (of_decide_eq_true c32b0)
                          clear c32
                          by_cases c33 : Flt.fadd x7_1.1 x7_1.2 ((wrap64 (a0 - ((rd_T30 l1 x8_1).f0))) * t120.1) ((wrap64 (a0 - ((rd_T30 l1 x8_1).f0))) * t120.2) = true
                          · rw [if_pos c33] at H
                            have c33b0 : Flt.fadd x7_1.1 x7_1.2 ((wrap64 (a0 - ((rd_T30 l1 x8_1).f0))) * t120.1) ((wrap64 (a0 - ((rd_T30 l1 x8_1).f0))) * t120.2) = true := c33
                            have hfc33_0 := Flt.add_c (P := Try.prog) (t := 24) (of_decide_eq_true c33b0)
                            have hfc33_1 := Flt.add_c (P := Try.prog) (t := 25) (of_decide_eq_true c33b0)
                            clear c33
                            have H' := Aside0.mk H
                            clear H
                            try go_wp2
                            have n0_ := Aside0.mk (below_drew1 HB.out)
                            clear HB
                            have HB := n0_
                            clear n0_
                            have p118 : 0 ≤ (x8_1 : Int) := of_decide_eq_true (by first | (with_reducible assumption) | assumption)
                            have q118 : x8_1 < (l1.length : Int) := of_decide_eq_true (by first | (with_reducible assumption) | assumption)
                            obtain ⟨ad118, e118, hx118_0, hx118_1, hx118_2⟩ := at_T30 HR1.out x8_1 p118 q118
                            have hw118_2 := hx118_2
                            have hw118_1 := hx118_1
                            have hw118_0 := hx118_0
                            cases e118
                            replace hx118_0 := (HB.out.cell (World.block_lt_of_cell? w _ hx118_0)).trans hx118_0
                            replace hx118_1 := (HB.out.cell (World.block_lt_of_cell? w _ hx118_1)).trans hx118_1
                            replace hx118_2 := (HB.out.cell (World.block_lt_of_cell? w _ hx118_2)).trans hx118_2
                            replace p118 := eq_true p118
                            replace q118 := eq_true q118
                            have p119 : 0 ≤ (x8_1 : Int) := of_decide_eq_true (by first | (with_reducible assumption) | assumption)
                            have q119 : x8_1 < (l1.length : Int) := of_decide_eq_true (by first | (with_reducible assumption) | assumption)
                            obtain ⟨ad119, e119, hx119_0, hx119_1, hx119_2⟩ := at_T30 HR1.out x8_1 p119 q119
                            have hw119_2 := hx119_2
                            have hw119_1 := hx119_1
                            have hw119_0 := hx119_0
                            obtain rfl : ad118 = ad119 := (by injection e119)
                            replace hx119_0 := (HB.out.cell (World.block_lt_of_cell? w _ hx119_0)).trans hx119_0
                            replace hx119_1 := (HB.out.cell (World.block_lt_of_cell? w _ hx119_1)).trans hx119_1
                            replace hx119_2 := (HB.out.cell (World.block_lt_of_cell? w _ hx119_2)).trans hx119_2
                            replace p119 := eq_true p119
                            replace q119 := eq_true q119
                            refine start_ (n := 18) (S := fun w' => w'.cell? (ad118.add ((x8_1).toNat * 3)) = some (.int .i64 ((rd_T30 l1 x8_1).f0)) ∧ w'.cell? ⟨(ad118.add ((x8_1).toNat * 3)).block, (ad118.add ((x8_1).toNat * 3)).off + 1, none⟩ = some (.int .i64 ((rd_T30 l1 x8_1).f1)) ∧ w'.cell? ⟨(ad118.add ((x8_1).toNat * 3)).block, (ad118.add ((x8_1).toNat * 3)).off + 2, none⟩ = some (.int .i64 ((rd_T30 l1 x8_1).f2)) ∧ w'.cell? (ad118.add ((x8_1).toNat * 3)) = some (.int .i64 ((rd_T30 l1 x8_1).f0)) ∧ w'.cell? ⟨(ad118.add ((x8_1).toNat * 3)).block, (ad118.add ((x8_1).toNat * 3)).off + 1, none⟩ = some (.int .i64 ((rd_T30 l1 x8_1).f1)) ∧ w'.cell? ⟨(ad118.add ((x8_1).toNat * 3)).block, (ad118.add ((x8_1).toNat * 3)).off + 2, none⟩ = some (.int .i64 ((rd_T30 l1 x8_1).f2))) (ds := []) #[false, false, false, false, false, false, false, false, false, false, false, false, false, false, false, false, false, false] (by kernel_rfl) rfl rfl ⟨((HB.out.cell (World.block_lt_of_cell? w _ hw118_0)).trans hw118_0), ((HB.out.cell (World.block_lt_of_cell? w _ hw118_1)).trans hw118_1), ((HB.out.cell (World.block_lt_of_cell? w _ hw118_2)).trans hw118_2), ((HB.out.cell (World.block_lt_of_cell? w _ hw119_0)).trans hw119_0), ((HB.out.cell (World.block_lt_of_cell? w _ hw119_1)).trans hw119_1), ((HB.out.cell (World.block_lt_of_cell? w _ hw119_2)).trans hw119_2)⟩ (fun hHeld => ?_); refine with_tabW pair_Banded.tab12 pair_Banded.bits12 (fun HT_ HW_ => ?_)
                            generalize wc.drew = w34 at HB hx118_0 hx118_1 hx118_2 hx119_0 hx119_1 hx119_2 hHeld ⊢
                            refine pure_ (i := 0) (N := some 47) (v := ?_) (a' := ?_) #[true, false, false, false, false, false, false, false, false, false, false, false, false, false, false, false, false, false] rfl rfl (any_of HT_.out (by kernel_rfl)) (fun _ _ _ h => h) (Or.inl ⟨by rfl, ?_⟩) ?_ ?_
                            rotate_left
                            · intro w'
                              go_simp
                              with_reducible rfl
                            rotate_left
                            · simp only [Act.put, List.setIfInBounds_toArray, List.set_cons_zero, List.set_cons_succ, i64_w, i32_w]
                              rfl
                            refine pure_ (i := 1) (N := some 48) (v := ?_) (a' := ?_) #[true, true, false, false, false, false, false, false, false, false, false, false, false, false, false, false, false, false] rfl rfl (any_of HT_.out (by kernel_rfl)) (fun _ _ _ h => h) (Or.inl ⟨by rfl, ?_⟩) ?_ ?_
                            rotate_left
                            · intro w'
                              go_simp
                              with_reducible rfl
                            rotate_left
                            · simp only [Act.put, List.setIfInBounds_toArray, List.set_cons_zero, List.set_cons_succ, i64_w, i32_w]
                              rfl
                            refine pure_ (i := 2) (N := some 49) (v := ?_) (a' := ?_) #[true, true, true, false, false, false, false, false, false, false, false, false, false, false, false, false, false, false] rfl rfl (any_of HT_.out (by kernel_rfl)) (fun _ _ _ h => h) (Or.inl ⟨by rfl, ?_⟩) ?_ ?_
                            rotate_left
                            · intro w'
                              go_simp
                              with_reducible rfl
                            rotate_left
                            · simp only [Act.put, List.setIfInBounds_toArray, List.set_cons_zero, List.set_cons_succ, i64_w, i32_w]
                              rfl
                            refine pure_ (i := 3) (N := some 50) (v := ?_) (a' := ?_) #[true, true, true, true, false, false, false, false, false, false, false, false, false, false, false, false, false, false] rfl rfl (any_of HT_.out (by kernel_rfl)) (fun _ _ _ h => h) (Or.inl ⟨by rfl, ?_⟩) ?_ ?_
                            rotate_left
                            · intro w'
                              go_simp
                              with_reducible rfl
                            rotate_left
                            · simp only [Act.put, List.setIfInBounds_toArray, List.set_cons_zero, List.set_cons_succ, i64_w, i32_w]
                              rfl
                            refine pure_ (i := 4) (N := some 51) (v := ?_) (a' := ?_) #[true, true, true, true, true, false, false, false, false, false, false, false, false, false, false, false, false, false] rfl rfl (any_of HT_.out (by kernel_rfl)) (fun _ _ _ h => h) (Or.inl ⟨by rfl, ?_⟩) ?_ ?_
                            rotate_left
                            · intro w'
                              go_simp
                              with_reducible rfl
                            rotate_left
                            · simp only [Act.put, List.setIfInBounds_toArray, List.set_cons_zero, List.set_cons_succ, i64_w, i32_w]
                              rfl
                            refine pure_ (i := 5) (N := some 52) (v := ?_) (a' := ?_) #[true, true, true, true, true, true, false, false, false, false, false, false, false, false, false, false, false, false] rfl rfl (any_of HT_.out (by kernel_rfl)) (fun _ _ _ h => h) (Or.inl ⟨by rfl, ?_⟩) ?_ ?_
                            rotate_left
                            · intro w'
                              go_simp
                              with_reducible rfl
                            rotate_left
                            · simp only [Act.put, List.setIfInBounds_toArray, List.set_cons_zero, List.set_cons_succ, i64_w, i32_w]
                              rfl
                            refine pure_ (i := 10) (N := some 57) (v := ?_) (a' := ?_) #[true, true, true, true, true, true, false, false, false, false, true, false, false, false, false, false, false, false] rfl rfl (any_of HT_.out (by kernel_rfl)) (fun _ _ _ h => h) (Or.inl ⟨by rfl, ?_⟩) ?_ ?_
                            rotate_left
                            · intro w'
                              go_simp
                              with_reducible rfl
                            rotate_left
                            · simp only [Act.put, List.setIfInBounds_toArray, List.set_cons_zero, List.set_cons_succ, i64_w, i32_w]
                              rfl
                            refine pure_ (i := 11) (N := some 58) (v := ?_) (a' := ?_) #[true, true, true, true, true, true, false, false, false, false, true, true, false, false, false, false, false, false] rfl rfl (any_of HT_.out (by kernel_rfl)) (fun _ _ _ h => h) (Or.inl ⟨by rfl, ?_⟩) ?_ ?_
                            rotate_left
                            · intro w'
                              go_simp
                              with_reducible rfl
                            rotate_left
                            · simp only [Act.put, List.setIfInBounds_toArray, List.set_cons_zero, List.set_cons_succ, i64_w, i32_w]
                              rfl
                            refine pure_ (i := 12) (N := some 59) (v := ?_) (a' := ?_) #[true, true, true, true, true, true, false, false, false, false, true, true, true, false, false, false, false, false] rfl rfl (any_of HT_.out (by kernel_rfl)) (fun _ _ _ h => h) (Or.inl ⟨by rfl, ?_⟩) ?_ ?_
                            rotate_left
                            · intro w'
                              go_simp
                              with_reducible rfl
                            rotate_left
                            · simp only [Act.put, List.setIfInBounds_toArray, List.set_cons_zero, List.set_cons_succ, i64_w, i32_w]
                              rfl
                            refine take_ (i := 6) (N := some 53) (v := ?_) (a' := ?_) #[true, true, true, true, true, true, true, false, false, false, true, true, true, false, false, false, false, false] rfl rfl (take_ofW HT_.out HW_.out (by kernel_rfl)) (fun _ _ _ h => h) (Or.inl ⟨by rfl, ?_⟩) hHeld ?_ ?_
                            rotate_left
                            · rintro w' ⟨s0, s1, s2, s3, s4, s5⟩
                              go_simp
                              with_reducible rfl
                            rotate_left
                            · simp only [Act.put, List.setIfInBounds_toArray, List.set_cons_zero, List.set_cons_succ, i64_w, i32_w]
                              rfl
                            refine pure_ (i := 7) (N := some 54) (v := ?_) (a' := ?_) #[true, true, true, true, true, true, true, true, false, false, true, true, true, false, false, false, false, false] rfl rfl (any_of HT_.out (by kernel_rfl)) (fun _ _ _ h => h) (Or.inl ⟨by rfl, ?_⟩) ?_ ?_
                            rotate_left
                            · intro w'
                              go_simp
                              with_reducible rfl
                            rotate_left
                            · simp only [Act.put, List.setIfInBounds_toArray, List.set_cons_zero, List.set_cons_succ, i64_w, i32_w]
                              rfl
                            refine pure_ (i := 8) (N := some 55) (v := ?_) (a' := ?_) #[true, true, true, true, true, true, true, true, true, false, true, true, true, false, false, false, false, false] rfl rfl (any_of HT_.out (by kernel_rfl)) (fun _ _ _ h => h) (Or.inl ⟨by rfl, ?_⟩) ?_ ?_
                            rotate_left
                            · intro w'
                              go_simp
                              with_reducible rfl
                            rotate_left
                            · simp only [Act.put, List.setIfInBounds_toArray, List.set_cons_zero, List.set_cons_succ, i64_w, i32_w]
                              rfl
                            refine pure_ (i := 9) (N := some 56) (v := ?_) (a' := ?_) #[true, true, true, true, true, true, true, true, true, true, true, true, true, false, false, false, false, false] rfl rfl (any_of HT_.out (by kernel_rfl)) (fun _ _ _ h => h) (Or.inl ⟨by rfl, ?_⟩) ?_ ?_
                            rotate_left
                            · intro w'
                              go_simp
                              with_reducible rfl
                            rotate_left
                            · simp only [Act.put, List.setIfInBounds_toArray, List.set_cons_zero, List.set_cons_succ, i64_w, i32_w]
                              rfl
                            refine take_ (i := 13) (N := some 60) (v := ?_) (a' := ?_) #[true, true, true, true, true, true, true, true, true, true, true, true, true, true, false, false, false, false] rfl rfl (take_ofW HT_.out HW_.out (by kernel_rfl)) (fun _ _ _ h => h) (Or.inl ⟨by rfl, ?_⟩) hHeld ?_ ?_
                            rotate_left
                            · rintro w' ⟨s0, s1, s2, s3, s4, s5⟩
                              go_simp
                              with_reducible rfl
                            rotate_left
                            · simp only [Act.put, List.setIfInBounds_toArray, List.set_cons_zero, List.set_cons_succ, i64_w, i32_w]
                              rfl
                            refine one_ (i := 14) (N := some 61) #[true, true, true, true, true, true, true, true, true, true, true, true, true, true, true, false, false, false] rfl rfl (one_of HT_.out (by kernel_rfl)) (by decide) (fun K hK => ?_)
                            refine goes_ Try.func43 (by kernel_rfl) rfl #[.agg #[.int .i64 ((rd_T30 l1 x8_1).f0), .int .i64 ((rd_T30 l1 x8_1).f1), .int .i64 ((rd_T30 l1 x8_1).f2)]] (by rfl) rfl rfl (by (try simp only [List.map_toArray, List.map_cons, List.map_nil]); first | done | rfl | (simp only [List.length_drop, List.length_take]; rfl)) ?_
                            with_reducible refine (pair_rates.calls ((rd_T30 l1 x8_1).f0) ((rd_T30 l1 x8_1).f1) ((rd_T30 l1 x8_1).f2) t120 _ A31.out).mono ?_
                            rintro e w35 ⟨rfl, hb⟩
                            refine ⟨_, rfl, ?_⟩
                            have n0_ := Aside0.mk (below_step (by repeat (first | (with_reducible first | exact HB.out | apply below_alloc | apply pw_below_drewN | apply below_drew1) | exact HB.out)) hb)
                            clear HB
                            have HB := n0_
                            clear n0_
                            (try clear hb)
                            (try clear hb2)
                            (try clear hk)
                            (try clear hi)
                            refine hK.out _ _ ⟨((HB.out.cell (World.block_lt_of_cell? w _ hw118_0)).trans hw118_0), ((HB.out.cell (World.block_lt_of_cell? w _ hw118_1)).trans hw118_1), ((HB.out.cell (World.block_lt_of_cell? w _ hw118_2)).trans hw118_2), ((HB.out.cell (World.block_lt_of_cell? w _ hw119_0)).trans hw119_0), ((HB.out.cell (World.block_lt_of_cell? w _ hw119_1)).trans hw119_1), ((HB.out.cell (World.block_lt_of_cell? w _ hw119_2)).trans hw119_2)⟩ (fun hHeld => ?_)
                            clear hK K
                            refine norm_ (a' := ?_) ?_ ?_
                            rotate_left
                            · show Act.put _ (some 61) _ = _
                              simp only [Act.put, List.setIfInBounds_toArray, List.set_cons_zero, List.set_cons_succ, i64_w, i32_w]
                              rfl
                            refine pure_ (i := 15) (N := some 62) (v := ?_) (a' := ?_) #[true, true, true, true, true, true, true, true, true, true, true, true, true, true, true, true, false, false] rfl rfl (any_of HT_.out (by kernel_rfl)) (fun _ _ _ h => h) (Or.inl ⟨by rfl, ?_⟩) ?_ ?_
                            rotate_left
                            · intro w'
                              go_simp
                              with_reducible rfl
                            rotate_left
                            · simp only [Act.put, List.setIfInBounds_toArray, List.set_cons_zero, List.set_cons_succ, i64_w, i32_w]
                              rfl
                            refine pure_ (i := 16) (N := some 63) (v := ?_) (a' := ?_) #[true, true, true, true, true, true, true, true, true, true, true, true, true, true, true, true, true, false] rfl rfl (any_of HT_.out (by kernel_rfl)) (fun _ _ _ h => h) (Or.inl ⟨by rfl, ?_⟩) ?_ ?_
                            rotate_left
                            · intro w'
                              go_simp
                              with_reducible rfl
                            rotate_left
                            · simp only [Act.put, List.setIfInBounds_toArray, List.set_cons_zero, List.set_cons_succ, i64_w, i32_w]
                              rfl
                            refine pure_ (i := 17) (N := some 7) (v := ?_) (a' := ?_) #[true, true, true, true, true, true, true, true, true, true, true, true, true, true, true, true, true, true] rfl rfl (any_of HT_.out (by kernel_rfl)) (fun _ _ _ h => h) (Or.inl ⟨by rfl, ?_⟩) ?_ ?_
                            rotate_left
                            · intro w'
                              go_simp
                              with_reducible rfl
                            rotate_left
                            · simp only [Act.put, List.setIfInBounds_toArray, List.set_cons_zero, List.set_cons_succ, i64_w, i32_w]
                              rfl
                            refine done_ (done_of HT_.out (by kernel_rfl)) ?_
                            try go_wp2
                            go_step3
                            show (0 : Nat) = 0 ∧ K_ _ _
                            refine ⟨rfl, hK_ _ _ (Go.Handed.intro kj10 ?measure (hJ_ _ _ _ ?_))⟩
                            rotate_left
                            (repeat apply Exists.intro)
                            refine ⟨?rel, rfl⟩
                            case measure => have := HK1.out; have := HJ10.out; omega
                            case rel => exact ⟨((x7_1.1 + ((wrap64 (a0 - ((rd_T30 l1 x8_1).f0))) * t120.1), x7_1.2 + ((wrap64 (a0 - ((rd_T30 l1 x8_1).f0))) * t120.2))), (wrap64 (x8_1 + 1)), (by first | rfl | (simp; done) | (simp [*]; done)), (by first | rfl | (simp; done) | (simp [*]; done)), H', ⟨by have := HK1.out; have := HJ10.out; omega⟩, ⟨by repeat (first | (with_reducible first | exact HB.out | apply below_alloc | apply pw_below_drewN | apply below_drew1) | exact HB.out)⟩⟩
                          · rw [if_neg c33] at H
                            exact absurd H (by simp)
                        · rw [if_neg c32] at H
                          exact absurd H (by simp)
                      · rw [if_neg c30] at H
                        exact absurd H (by simp)
                    · rw [if_neg c29] at H
                      exact absurd H (by simp)
                  · rw [if_neg c28] at H
                    exact absurd H (by simp)
    · replace c6 := Bool.eq_false_iff.mpr c6
      subst c6
      have H1 : (some ((0, 0), 10)) = some (r1, r2) := by rw [if_neg (show ¬ (false = true) by decide)] at H; exact H
      clear H
      have H := H1
      clear H1
      simp only [Option.some.injEq, Prod.mk.injEq] at H
      obtain ⟨rfl, rfl⟩ := H
      go_enter Try.func15, Try.ntmps15
      go_wp2
      refine Go.Proofs.Ytfiomckebicphaa.Lab.wp_scope_late 0 rfl ?_
      intro J0_ hJ0_
      go_wp2_with (first | ((with_reducible refine gate_callee (f := 17) rfl ?_); refine goesL_ (some 11) rfl rfl Try.func17 (by kernel_rfl) rfl #[.slice A1 l1.length c1] rfl (by (try simp only [List.map_toArray, List.map_cons, List.map_nil]); first | done | rfl | (simp only [List.length_drop, List.length_take]; rfl)) ?_; (with_reducible refine (band_Check.calls k _ _ l1 t108 _ ?side1 ?side2 A3.out).mono ?_); (case side1 => repeat (first | exact HR1.out | (with_reducible refine Kd.C_alloc ?_ _) | (with_reducible refine Kd.C_drewN ?_ _) | (with_reducible refine Kd.C_drew ?_))); (case side2 => exact HC1.out); rintro e w36 ⟨rfl, hb⟩; refine ⟨_, rfl, ?_⟩; have n0_ := Aside0.mk (below_step (by repeat (first | (with_reducible first | exact HB.out | apply below_alloc | apply pw_below_drewN | apply below_drew1) | exact HB.out)) hb); clear HB; have HB := n0_; clear n0_; (try clear hb); (try clear hb2); (try clear hk); (try clear hi)) | ((with_reducible refine gate_dst (N := 16) rfl ?_); refine Kd.R_lit (Kd.int .i64) _ 2 ?hg (N := 16) ?hd (xs := ([a0] : List Int)) (inner := [.int .i64 a0]) (ok := fun _ => True) (okp := fun _ => True) ?hr ?hp (fun _ hk => hk) trivial (Below.refl _ _) (Nat.le_refl _) (by simp) ?_; (case hd => rfl); (case hg => rfl); (case hr => first | (go_simp; done) | (go_simp; rfl)); (case hp => exact (Reps.one (show Kd.M (Kd.int .i64) _ _ _ a0 [.int .i64 a0] from rfl) (Reps.none _ _))); intro v110 w37 ho38 hb hg_ hnew_; clear hg_ hnew_; (first | rw [← Ny109.out] at ho38 | (simp only [Int.reduceToNat] at ho38; rw [← Ny109.out] at ho38)); have n0_ := Aside0.mk (Kd.R_lower ho38 (below_size (by repeat (first | (with_reducible first | exact HB.out | apply below_alloc | apply pw_below_drewN | apply below_drew1) | exact HB.out)))); have n1_ := Aside0.mk (below_step (by repeat (first | (with_reducible first | exact HB.out | apply below_alloc | apply pw_below_drewN | apply below_drew1) | exact HB.out)) hb); clear HB; have HO111 := n0_; have HB := n1_; clear n0_ n1_; clear hb ho38; obtain ⟨Ao39, co39, eo39⟩ := Kd.R_slice HO111.out; subst eo39) | ((with_reducible refine gate_callee (f := 42) rfl ?_); refine goesL_ (some 17) rfl rfl Try.func42 (by kernel_rfl) rfl #[.slice Ao39 y109.length co39] rfl (by (try simp only [List.map_toArray, List.map_cons, List.map_nil]); first | done | rfl | (simp only [List.length_drop, List.length_take]; rfl)) ?_; (with_reducible refine (money_Right.calls k _ _ y109 false _ ?side1 ?side2 A5.out).mono ?_); (case side1 => repeat (first | exact (Kd.R_reads' HO111.out).2.2 | (with_reducible refine Kd.C_alloc ?_ _) | (with_reducible refine Kd.C_drewN ?_ _) | (with_reducible refine Kd.C_drew ?_))); (case side2 => exact (Kd.R_reads' HO111.out).2.1); rintro e w' ⟨rfl, ⟨nd, rfl⟩⟩; refine ⟨_, rfl, ?_⟩))
      (try simp only [Go.Exit.jump])
      go_ret2
      exact ⟨by first | rfl | (simp [errW_none, errW_some] <;> rfl) | (simp [*, errW_none, errW_some] <;> rfl), by repeat (first | (with_reducible first | exact HB.out | apply below_alloc | apply pw_below_drewN | apply below_drew1) | exact HB.out)⟩
  · rw [if_neg c4] at H
    have c4b0 : (t108 == 0) = false := beq_eq_false_iff_ne.mpr c4
    have c4b1 : (t108 != 0) = true := bne_iff_ne.mpr c4
    simp only [Option.some.injEq, Prod.mk.injEq] at H
    obtain ⟨rfl, rfl⟩ := H
    go_enter Try.func15, Try.ntmps15
    go_wp2
    refine Go.Proofs.Ytfiomckebicphaa.Lab.wp_scope_late 0 rfl ?_
    intro J0_ hJ0_
    go_wp2_with (first | ((with_reducible refine gate_callee (f := 17) rfl ?_); refine goesL_ (some 11) rfl rfl Try.func17 (by kernel_rfl) rfl #[.slice A1 l1.length c1] rfl (by (try simp only [List.map_toArray, List.map_cons, List.map_nil]); first | done | rfl | (simp only [List.length_drop, List.length_take]; rfl)) ?_; (with_reducible refine (band_Check.calls k _ _ l1 t108 _ ?side1 ?side2 A3.out).mono ?_); (case side1 => repeat (first | exact HR1.out | (with_reducible refine Kd.C_alloc ?_ _) | (with_reducible refine Kd.C_drewN ?_ _) | (with_reducible refine Kd.C_drew ?_))); (case side2 => exact HC1.out); rintro e w40 ⟨rfl, hb⟩; refine ⟨_, rfl, ?_⟩; have n0_ := Aside0.mk (below_step (by repeat (first | (with_reducible first | exact HB.out | apply below_alloc | apply pw_below_drewN | apply below_drew1) | exact HB.out)) hb); clear HB; have HB := n0_; clear n0_; (try clear hb); (try clear hb2); (try clear hk); (try clear hi)))
    (try simp only [Go.Exit.jump])
    go_ret2
    exact ⟨by first | rfl | (simp [errW_none, errW_some] <;> rfl) | (simp [*, errW_none, errW_some] <;> rfl), by repeat (first | (with_reducible first | exact HB.out | apply below_alloc | apply pw_below_drewN | apply below_drew1) | exact HB.out)⟩

end Go.Proofs.Ytfiomckebicphaa.B
