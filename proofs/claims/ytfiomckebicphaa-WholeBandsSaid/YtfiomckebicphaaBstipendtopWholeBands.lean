-- laid by the session's own program (xprint.py) out of Lean's print of the program; Lean checks it
import Derived.Test.YtfiomckebicphaaB0
import Derived.Test.YtfiomckebicphaaBeq1
import Derived.Test.YtfiomckebicphaaBbandCheck
import Derived.Test.YtfiomckebicphaaBpairBanded
import Derived.Test.YtfiomckebicphaaBpairSides
import Derived.Test.YtfiomckebicphaaBbandExact
import Derived.Test.YtfiomckebicphaaBbandBetween
import Derived.Test.YtfiomckebicphaaBbandEmployer
import Derived.Test.YtfiomckebicphaaBpairOf
import Derived.Test.YtfiomckebicphaaBpairCoins
import Derived.Test.YtfiomckebicphaaBfracCoins
namespace Go.Proofs.Ytfiomckebicphaa.B
open Go.RowKit Go.Proofs.YtfiomckebicphaaW.PrintWords Go.Proofs.YtfiomckebicphaaW.PrintLast Go.Proofs.YtfiomckebicphaaW.PrintMore
attribute [local go_sem] max2_int min2_int max_two min_two max_three min_three max_four min_four   -- for this text's walks alone
set_option linter.unusedVariables false
set_option linter.unusedSimpArgs false

attribute [local go_sem high] eqA40
/-! ### stipendtop_WholeBands: function 3 -/
mutual
def stipendtop_WholeBands.j0 : Nat → List (S30) → List Int → Int → Bool → Option (Bool)
  | 0, _, _, _, _ => none
  | k + 1, x0, x1, x2, x53 => if x53 = true then (some false) else ((band_Check.f k x0).bind fun t187 => (if t187 = 0 then (stipendtop_WholeBands.j1 k x0 x1 x2 (decide ((x1.length : Int) > 40))) else (stipendtop_WholeBands.j1 k x0 x1 x2 true)))
def stipendtop_WholeBands.j1 : Nat → List (S30) → List Int → Int → Bool → Option (Bool)
  | 0, _, _, _, _ => none
  | k + 1, x0, x1, x2, x61 => if x61 = true then (some true) else (stipendtop_WholeBands.l0 k x0 x2 0 0 x1 (x1.length : Int) 0)
def stipendtop_WholeBands.l0 : Nat → List (S30) → Int → Int → Int → List Int → Int → Int → Option (Bool)
  | 0, _, _, _, _, _, _, _ => none
  | k + 1, x0, x2, x12, x13, x62, x63, x64 => if x64 < x63 then (if 0 ≤ x64 then (if x64 < (x62.length : Int) then (if (rd x62 x64) < 0 then (stipendtop_WholeBands.j3 k x0 x2 x12 x13 (rd x62 x64) x62 x63 x64 true) else (stipendtop_WholeBands.j3 k x0 x2 x12 x13 (rd x62 x64) x62 x63 x64 (decide ((rd x62 x64) > 2000000000)))) else (none)) else (none)) else ((band_Exact.f k x12 x0).bind fun bt191 => ((band_Employer.f k x12 x0).bind fun bt193 => ((pair_Banded.f k x12 x0).bind fun bt195 => ((pair_Of.f bt191.1 bt193.1).bind fun bt197 => (if (wrap64 ((wrap64 ((wrap64 (bt191.2 + bt193.2)) + bt195.2)) + bt197.2)) = 0 then (if bt191.1 = x13 then (if Flt.feq bt195.1.1 bt195.1.2 bt197.1.1 bt197.1.2 = true then (stipendtop_WholeBands.j4 k x2 bt191.1 bt193.1 bt195.1 (!(bt195.1.1 == bt197.1.1 && bt195.1.2 == bt197.1.2))) else (none)) else (stipendtop_WholeBands.j4 k x2 bt191.1 bt193.1 bt195.1 true)) else (stipendtop_WholeBands.j4 k x2 bt191.1 bt193.1 bt195.1 true))))))
def stipendtop_WholeBands.j3 : Nat → List (S30) → Int → Int → Int → Int → List Int → Int → Int → Bool → Option (Bool)
  | 0, _, _, _, _, _, _, _, _, _ => none
  | k + 1, x0, x2, x12, x13, x15, x62, x63, x64, x73 => if x73 = true then (some true) else ((band_Between.f k x12 (wrap64 (x12 + x15)) x0).bind fun bt189 => (if bt189.2 = 0 then (stipendtop_WholeBands.l0 k x0 x2 (wrap64 (x12 + x15)) (wrap64 (x13 + bt189.1)) x62 x63 (wrap64 (x64 + 1))) else (some false)))
def stipendtop_WholeBands.j4 : Nat → Int → Int → Int → (Int × Int) → Bool → Option (Bool)
  | 0, _, _, _, _, _ => none
  | k + 1, x2, x18, x20, x22, x133 => if x133 = true then (some false) else ((pair_Coins.f k x22 x2).bind fun bt199 => ((frac_Coins.f k x18 x2).bind fun bt203 => ((frac_Coins.f k x20 x2).bind fun bt205 => (if bt199.2.2 = bt203.2 then (if bt203.2 = bt205.2 then (some (bt199.1 == bt203.1 && (bt199.2.1 == bt205.1))) else (some false)) else (some false)))))
end
def stipendtop_WholeBands.f (k : Nat) (l0 : List (S30)) (l1 : List Int) (a2 : Int) : Option (Bool) := (pair_Banded.f k 10 (([(⟨0, 3, 4⟩ : S30)] : List (S30)))).bind fun bt182 => ((pair_Sides.f bt182.1).bind fun bt184 => (if bt184.2.2 = 0 then (if bt184.1 = 30 then (stipendtop_WholeBands.j0 k l0 l1 a2 (bt184.2.1 != 40)) else (stipendtop_WholeBands.j0 k l0 l1 a2 true)) else (stipendtop_WholeBands.j0 k l0 l1 a2 true)))
theorem stipendtop_WholeBands.mono_l : ∀ k, (∀ y0 y1 y2 y3, LeO (stipendtop_WholeBands.j0 k y0 y1 y2 y3) (stipendtop_WholeBands.j0 (k + 1) y0 y1 y2 y3)) ∧ (∀ y0 y1 y2 y3, LeO (stipendtop_WholeBands.j1 k y0 y1 y2 y3) (stipendtop_WholeBands.j1 (k + 1) y0 y1 y2 y3)) ∧ (∀ y0 y1 y2 y3 y4 y5 y6, LeO (stipendtop_WholeBands.l0 k y0 y1 y2 y3 y4 y5 y6) (stipendtop_WholeBands.l0 (k + 1) y0 y1 y2 y3 y4 y5 y6)) ∧ (∀ y0 y1 y2 y3 y4 y5 y6 y7 y8, LeO (stipendtop_WholeBands.j3 k y0 y1 y2 y3 y4 y5 y6 y7 y8) (stipendtop_WholeBands.j3 (k + 1) y0 y1 y2 y3 y4 y5 y6 y7 y8)) ∧ (∀ y0 y1 y2 y3 y4, LeO (stipendtop_WholeBands.j4 k y0 y1 y2 y3 y4) (stipendtop_WholeBands.j4 (k + 1) y0 y1 y2 y3 y4))
  | 0 => ⟨fun _ _ _ _ r h => by simp [stipendtop_WholeBands.j0] at h, fun _ _ _ _ r h => by simp [stipendtop_WholeBands.j1] at h, fun _ _ _ _ _ _ _ r h => by simp [stipendtop_WholeBands.l0] at h, fun _ _ _ _ _ _ _ _ _ r h => by simp [stipendtop_WholeBands.j3] at h, fun _ _ _ _ _ r h => by simp [stipendtop_WholeBands.j4] at h⟩
  | k + 1 => by
    obtain ⟨ih0, ih1, ih2, ih3, ih4⟩ := stipendtop_WholeBands.mono_l k
    refine ⟨?_, ?_, ?_, ?_, ?_⟩
    · intro y0 y1 y2 y3
      unfold stipendtop_WholeBands.j0
      repeat' first
      | (with_reducible exact ih0 _ _ _ _)
      | (with_reducible exact ih1 _ _ _ _)
      | (with_reducible exact ih2 _ _ _ _ _ _ _)
      | (with_reducible exact ih3 _ _ _ _ _ _ _ _ _)
      | (with_reducible exact ih4 _ _ _ _ _)
      | (with_reducible exact band_Between.mono _ _ _ _)
      | (with_reducible exact band_Check.mono _ _)
      | (with_reducible exact band_Employer.mono _ _ _)
      | (with_reducible exact band_Exact.mono _ _ _)
      | (with_reducible exact frac_Coins.mono _ _ _)
      | (with_reducible exact pair_Banded.mono _ _ _)
      | (with_reducible exact pair_Coins.mono _ _ _)
      | (with_reducible exact LeO.refl _)
      | (with_reducible exact LeO.none _)
      | (with_reducible refine LeO.ite ?_ ?_)
      | (with_reducible refine LeO.bind ?_ (fun _ => ?_))
      | exact ih0 _ _ _ _
      | exact ih1 _ _ _ _
      | exact ih2 _ _ _ _ _ _ _
      | exact ih3 _ _ _ _ _ _ _ _ _
      | exact ih4 _ _ _ _ _
      | exact band_Between.mono _ _ _ _
      | exact band_Check.mono _ _
      | exact band_Employer.mono _ _ _
      | exact band_Exact.mono _ _ _
      | exact frac_Coins.mono _ _ _
      | exact pair_Banded.mono _ _ _
      | exact pair_Coins.mono _ _ _
      | exact LeO.none _
      | refine LeO.ite ?_ ?_
      | refine LeO.bind ?_ (fun _ => ?_)
    · intro y0 y1 y2 y3
      unfold stipendtop_WholeBands.j1
      repeat' first
      | (with_reducible exact ih0 _ _ _ _)
      | (with_reducible exact ih1 _ _ _ _)
      | (with_reducible exact ih2 _ _ _ _ _ _ _)
      | (with_reducible exact ih3 _ _ _ _ _ _ _ _ _)
      | (with_reducible exact ih4 _ _ _ _ _)
      | (with_reducible exact band_Between.mono _ _ _ _)
      | (with_reducible exact band_Check.mono _ _)
      | (with_reducible exact band_Employer.mono _ _ _)
      | (with_reducible exact band_Exact.mono _ _ _)
      | (with_reducible exact frac_Coins.mono _ _ _)
      | (with_reducible exact pair_Banded.mono _ _ _)
      | (with_reducible exact pair_Coins.mono _ _ _)
      | (with_reducible exact LeO.refl _)
      | (with_reducible exact LeO.none _)
      | (with_reducible refine LeO.ite ?_ ?_)
      | (with_reducible refine LeO.bind ?_ (fun _ => ?_))
      | exact ih0 _ _ _ _
      | exact ih1 _ _ _ _
      | exact ih2 _ _ _ _ _ _ _
      | exact ih3 _ _ _ _ _ _ _ _ _
      | exact ih4 _ _ _ _ _
      | exact band_Between.mono _ _ _ _
      | exact band_Check.mono _ _
      | exact band_Employer.mono _ _ _
      | exact band_Exact.mono _ _ _
      | exact frac_Coins.mono _ _ _
      | exact pair_Banded.mono _ _ _
      | exact pair_Coins.mono _ _ _
      | exact LeO.none _
      | refine LeO.ite ?_ ?_
      | refine LeO.bind ?_ (fun _ => ?_)
    · intro y0 y1 y2 y3 y4 y5 y6
      unfold stipendtop_WholeBands.l0
      repeat' first
      | (with_reducible exact ih0 _ _ _ _)
      | (with_reducible exact ih1 _ _ _ _)
      | (with_reducible exact ih2 _ _ _ _ _ _ _)
      | (with_reducible exact ih3 _ _ _ _ _ _ _ _ _)
      | (with_reducible exact ih4 _ _ _ _ _)
      | (with_reducible exact band_Between.mono _ _ _ _)
      | (with_reducible exact band_Check.mono _ _)
      | (with_reducible exact band_Employer.mono _ _ _)
      | (with_reducible exact band_Exact.mono _ _ _)
      | (with_reducible exact frac_Coins.mono _ _ _)
      | (with_reducible exact pair_Banded.mono _ _ _)
      | (with_reducible exact pair_Coins.mono _ _ _)
      | (with_reducible exact LeO.refl _)
      | (with_reducible exact LeO.none _)
      | (with_reducible refine LeO.ite ?_ ?_)
      | (with_reducible refine LeO.bind ?_ (fun _ => ?_))
      | exact ih0 _ _ _ _
      | exact ih1 _ _ _ _
      | exact ih2 _ _ _ _ _ _ _
      | exact ih3 _ _ _ _ _ _ _ _ _
      | exact ih4 _ _ _ _ _
      | exact band_Between.mono _ _ _ _
      | exact band_Check.mono _ _
      | exact band_Employer.mono _ _ _
      | exact band_Exact.mono _ _ _
      | exact frac_Coins.mono _ _ _
      | exact pair_Banded.mono _ _ _
      | exact pair_Coins.mono _ _ _
      | exact LeO.none _
      | refine LeO.ite ?_ ?_
      | refine LeO.bind ?_ (fun _ => ?_)
    · intro y0 y1 y2 y3 y4 y5 y6 y7 y8
      unfold stipendtop_WholeBands.j3
      repeat' first
      | (with_reducible exact ih0 _ _ _ _)
      | (with_reducible exact ih1 _ _ _ _)
      | (with_reducible exact ih2 _ _ _ _ _ _ _)
      | (with_reducible exact ih3 _ _ _ _ _ _ _ _ _)
      | (with_reducible exact ih4 _ _ _ _ _)
      | (with_reducible exact band_Between.mono _ _ _ _)
      | (with_reducible exact band_Check.mono _ _)
      | (with_reducible exact band_Employer.mono _ _ _)
      | (with_reducible exact band_Exact.mono _ _ _)
      | (with_reducible exact frac_Coins.mono _ _ _)
      | (with_reducible exact pair_Banded.mono _ _ _)
      | (with_reducible exact pair_Coins.mono _ _ _)
      | (with_reducible exact LeO.refl _)
      | (with_reducible exact LeO.none _)
      | (with_reducible refine LeO.ite ?_ ?_)
      | (with_reducible refine LeO.bind ?_ (fun _ => ?_))
      | exact ih0 _ _ _ _
      | exact ih1 _ _ _ _
      | exact ih2 _ _ _ _ _ _ _
      | exact ih3 _ _ _ _ _ _ _ _ _
      | exact ih4 _ _ _ _ _
      | exact band_Between.mono _ _ _ _
      | exact band_Check.mono _ _
      | exact band_Employer.mono _ _ _
      | exact band_Exact.mono _ _ _
      | exact frac_Coins.mono _ _ _
      | exact pair_Banded.mono _ _ _
      | exact pair_Coins.mono _ _ _
      | exact LeO.none _
      | refine LeO.ite ?_ ?_
      | refine LeO.bind ?_ (fun _ => ?_)
    · intro y0 y1 y2 y3 y4
      unfold stipendtop_WholeBands.j4
      repeat' first
      | (with_reducible exact ih0 _ _ _ _)
      | (with_reducible exact ih1 _ _ _ _)
      | (with_reducible exact ih2 _ _ _ _ _ _ _)
      | (with_reducible exact ih3 _ _ _ _ _ _ _ _ _)
      | (with_reducible exact ih4 _ _ _ _ _)
      | (with_reducible exact band_Between.mono _ _ _ _)
      | (with_reducible exact band_Check.mono _ _)
      | (with_reducible exact band_Employer.mono _ _ _)
      | (with_reducible exact band_Exact.mono _ _ _)
      | (with_reducible exact frac_Coins.mono _ _ _)
      | (with_reducible exact pair_Banded.mono _ _ _)
      | (with_reducible exact pair_Coins.mono _ _ _)
      | (with_reducible exact LeO.refl _)
      | (with_reducible exact LeO.none _)
      | (with_reducible refine LeO.ite ?_ ?_)
      | (with_reducible refine LeO.bind ?_ (fun _ => ?_))
      | exact ih0 _ _ _ _
      | exact ih1 _ _ _ _
      | exact ih2 _ _ _ _ _ _ _
      | exact ih3 _ _ _ _ _ _ _ _ _
      | exact ih4 _ _ _ _ _
      | exact band_Between.mono _ _ _ _
      | exact band_Check.mono _ _
      | exact band_Employer.mono _ _ _
      | exact band_Exact.mono _ _ _
      | exact frac_Coins.mono _ _ _
      | exact pair_Banded.mono _ _ _
      | exact pair_Coins.mono _ _ _
      | exact LeO.none _
      | refine LeO.ite ?_ ?_
      | refine LeO.bind ?_ (fun _ => ?_)
theorem stipendtop_WholeBands.mono : ∀ a0 a1 a2 k, LeO (stipendtop_WholeBands.f k a0 a1 a2) (stipendtop_WholeBands.f (k + 1) a0 a1 a2) := by
  intro a0 a1 a2 k
  obtain ⟨ih0, ih1, ih2, ih3, ih4⟩ := stipendtop_WholeBands.mono_l k
  unfold stipendtop_WholeBands.f
  repeat' first
      | (with_reducible exact ih0 _ _ _ _)
      | (with_reducible exact ih1 _ _ _ _)
      | (with_reducible exact ih2 _ _ _ _ _ _ _)
      | (with_reducible exact ih3 _ _ _ _ _ _ _ _ _)
      | (with_reducible exact ih4 _ _ _ _ _)
      | (with_reducible exact band_Between.mono _ _ _ _)
      | (with_reducible exact band_Check.mono _ _)
      | (with_reducible exact band_Employer.mono _ _ _)
      | (with_reducible exact band_Exact.mono _ _ _)
      | (with_reducible exact frac_Coins.mono _ _ _)
      | (with_reducible exact pair_Banded.mono _ _ _)
      | (with_reducible exact pair_Coins.mono _ _ _)
      | (with_reducible exact LeO.refl _)
      | (with_reducible exact LeO.none _)
      | (with_reducible refine LeO.ite ?_ ?_)
      | (with_reducible refine LeO.bind ?_ (fun _ => ?_))
      | exact ih0 _ _ _ _
      | exact ih1 _ _ _ _
      | exact ih2 _ _ _ _ _ _ _
      | exact ih3 _ _ _ _ _ _ _ _ _
      | exact ih4 _ _ _ _ _
      | exact band_Between.mono _ _ _ _
      | exact band_Check.mono _ _
      | exact band_Employer.mono _ _ _
      | exact band_Exact.mono _ _ _
      | exact frac_Coins.mono _ _ _
      | exact pair_Banded.mono _ _ _
      | exact pair_Coins.mono _ _ _
      | exact LeO.none _
      | refine LeO.ite ?_ ?_
      | refine LeO.bind ?_ (fun _ => ?_)
set_option maxHeartbeats 8000000 in
set_option maxRecDepth 100000 in
theorem stipendtop_WholeBands.calls (k : Nat) (A0 : Option Addr) (c0 : Nat) (l0 : List (S30)) (A1 : Option Addr) (c1 : Nat) (l1 : List Int) (a2 : Int) (r : Bool) (w : World) (hr0 : Kd.C k30 w A0 l0.length l0) (hc0 : l0.length ≤ c0) (hr1 : Kd.C (Kd.int .i64) w A1 l1.length l1) (hc1 : l1.length ≤ c1) (h : stipendtop_WholeBands.f k l0 l1 a2 = some r) :
    Calls Try.prog 3 #[.slice A0 l0.length c0, .slice A1 l1.length c1, .int .i64 a2] w fun e w' => e = .returned (.bool r) ∧ Below w.heap.size w w' := by
  have hu30 := Try.underlying30
  have hu40 := Try.underlying40
  have HR0 := Aside0.mk hr0
  have HC0 := Aside0.mk hc0
  clear hr0 hc0
  have HR1 := Aside0.mk hr1
  have HC1 := Aside0.mk hc1
  clear hr1 hc1
  have HB := Aside0.mk (Below.refl w.heap.size w)
  have hcx_ := Flt.run_complex (P := Try.prog)
  have hre_ := Flt.run_real (P := Try.prog)
  have him_ := Flt.run_imag (P := Try.prog)
  have H : ((pair_Banded.f k 10 (([(⟨0, 3, 4⟩ : S30)] : List (S30)))).bind fun bt182 => ((pair_Sides.f bt182.1).bind fun bt184 => (if bt184.2.2 = 0 then (if bt184.1 = 30 then (stipendtop_WholeBands.j0 k l0 l1 a2 (bt184.2.1 != 40)) else (stipendtop_WholeBands.j0 k l0 l1 a2 true)) else (stipendtop_WholeBands.j0 k l0 l1 a2 true)))) = some r := h
  clear h
  obtain ⟨y179, hy179⟩ : ∃ y_ : List (S30), y_ = (([(⟨0, 3, 4⟩ : S30)] : List (S30))) := ⟨_, rfl⟩
  replace H : ((pair_Banded.f k 10 y179).bind fun bt182 => ((pair_Sides.f bt182.1).bind fun bt184 => (if bt184.2.2 = 0 then (if bt184.1 = 30 then (stipendtop_WholeBands.j0 k l0 l1 a2 (bt184.2.1 != 40)) else (stipendtop_WholeBands.j0 k l0 l1 a2 true)) else (stipendtop_WholeBands.j0 k l0 l1 a2 true)))) = some r := by first | (rw [hy179]; with_reducible exact H) | (have H2_ := (Option.bind_some _ _).symm.trans H; rw [hy179]; with_reducible exact H2_) | (have H2_ := (Option.bind_some _ _).symm.trans H; with_reducible exact H2_) | with_reducible exact H | (rw [hy179]; exact H) | exact H
  have Ny179 := Aside0.mk hy179
  clear hy179
  replace H := Option.bind_eq_some_iff.mp H
  obtain ⟨⟨t182, t183⟩, A40, H⟩ := H
  replace H : ((pair_Sides.f t182).bind fun bt184 => (if bt184.2.2 = 0 then (if bt184.1 = 30 then (stipendtop_WholeBands.j0 k l0 l1 a2 (bt184.2.1 != 40)) else (stipendtop_WholeBands.j0 k l0 l1 a2 true)) else (stipendtop_WholeBands.j0 k l0 l1 a2 true))) = some r := H
  have A4 := Aside0.mk A40
  clear A40
  replace H := Option.bind_eq_some_iff.mp H
  obtain ⟨⟨t184, t185, t186⟩, A50, H⟩ := H
  replace H : (if t186 = 0 then (if t184 = 30 then (stipendtop_WholeBands.j0 k l0 l1 a2 (t185 != 40)) else (stipendtop_WholeBands.j0 k l0 l1 a2 true)) else (stipendtop_WholeBands.j0 k l0 l1 a2 true)) = some r := H
  have A5 := Aside0.mk A50
  clear A50
  have HC6 := Aside0.mk H
  clear H
  go_enter Try.func3, Try.ntmps3
  go_upto_region 3 with (first | ((with_reducible refine gate_dst (N := 34) rfl ?_); refine Kd.R_lit k30 _ 30 ?hg (N := 34) ?hd (xs := ([(⟨0, 3, 4⟩ : S30)] : List (S30))) (inner := [.int .i64 0, .int .i64 3, .int .i64 4]) (ok := fun _ => True) (okp := fun _ => True) ?hr ?hp (fun _ hk => hk) trivial (Below.refl _ _) (Nat.le_refl _) (by simp) ?_; (case hd => rfl); (case hg => rfl); (case hr => first | (go_simp; done) | (go_simp; rfl)); (case hp => exact (Reps.c3 (show Kd.M k30 _ _ _ (⟨0, 3, 4⟩ : S30) [.int .i64 0, .int .i64 3, .int .i64 4] from (k30_mkM _ _ _ (⟨0, 3, 4⟩ : S30) )) (Reps.none _ _))); intro v180 w7 ho8 hb hg_ hnew_; clear hg_ hnew_; (first | rw [← Ny179.out] at ho8 | (simp only [Int.reduceToNat] at ho8; rw [← Ny179.out] at ho8)); have n0_ := Aside0.mk (Kd.R_lower ho8 (below_size (by repeat (first | (with_reducible first | exact HB.out | apply below_alloc | apply pw_below_drewN | apply below_drew1) | exact HB.out)))); have n1_ := Aside0.mk (below_step (by repeat (first | (with_reducible first | exact HB.out | apply below_alloc | apply pw_below_drewN | apply below_drew1) | exact HB.out)) hb); clear HB; have HO181 := n0_; have HB := n1_; clear n0_ n1_; clear hb ho8; obtain ⟨Ao9, co9, eo9⟩ := Kd.R_slice HO181.out; subst eo9) | ((with_reducible refine gate_callee (f := 15) rfl ?_); refine goesL_ (some 35) rfl rfl Try.func15 (by kernel_rfl) rfl #[.int .i64 10, .slice Ao9 y179.length co9] rfl (by (try simp only [List.map_toArray, List.map_cons, List.map_nil]); first | done | rfl | (simp only [List.length_drop, List.length_take]; rfl)) ?_; (with_reducible refine (pair_Banded.calls k 10 _ _ y179 t182 t183 _ ?side1 ?side2 A4.out).mono ?_); (case side1 => repeat (first | exact (Kd.R_reads' HO181.out).2.2 | (with_reducible refine Kd.C_alloc ?_ _) | (with_reducible refine Kd.C_drewN ?_ _) | (with_reducible refine Kd.C_drew ?_))); (case side2 => exact (Kd.R_reads' HO181.out).2.1); rintro e w10 ⟨rfl, hb⟩; refine ⟨_, rfl, ?_⟩; have n0_ := Aside0.mk (Kd.R_below (by (with_reducible repeat (first | apply Kd.R_alloc | apply Kd.R_drewN | apply Kd.R_drew)); exact HO181.out) hb); have n1_ := Aside0.mk (below_step (by repeat (first | (with_reducible first | exact HB.out | apply below_alloc | apply pw_below_drewN | apply below_drew1) | exact HB.out)) hb); clear HO181; clear HB; have HO181 := n0_; have HB := n1_; clear n0_ n1_; (try clear hb); (try clear hb2); (try clear hk); (try clear hi)) | ((with_reducible refine gate_callee (f := 16) rfl ?_); refine goesL_ (some 40) rfl rfl Try.func16 (by kernel_rfl) rfl #[.complex .f64 (Flt.FI t182.1) (Flt.FI t182.2)] rfl (by (try simp only [List.map_toArray, List.map_cons, List.map_nil]); first | done | rfl | (simp only [List.length_drop, List.length_take]; rfl)) ?_; (with_reducible refine (pair_Sides.calls t182 t184 t185 t186 _ A5.out).mono ?_); rintro e w11 ⟨rfl, hb⟩; refine ⟨_, rfl, ?_⟩; have n0_ := Aside0.mk (Kd.R_below (by (with_reducible repeat (first | apply Kd.R_alloc | apply Kd.R_drewN | apply Kd.R_drew)); exact HO181.out) hb); have n1_ := Aside0.mk (below_step (by repeat (first | (with_reducible first | exact HB.out | apply below_alloc | apply pw_below_drewN | apply below_drew1) | exact HB.out)) hb); clear HO181; clear HB; have HO181 := n0_; have HB := n1_; clear n0_ n1_; (try clear hb); (try clear hb2); (try clear hk); (try clear hi)))
  (try simp only [Act.put, List.setIfInBounds_toArray, List.set_cons_zero, List.set_cons_succ])
  go_cut [53] (fun v53 wc => ∃ (kq : Nat) (x53_5 : Bool), v53 = .bool x53_5 ∧ Aside0 (stipendtop_WholeBands.j0 kq l0 l1 a2 x53_5 = some r) ∧ Aside0 (kq ≤ k) ∧ Aside0 (Below w.heap.size w wc))
  case first =>
    have H := HC6.out
    clear HC6
    by_cases c12 : t186 = 0
    · rw [if_pos c12] at H
      have c12b0 : (t186 == 0) = true := beq_iff_eq.mpr c12
      have c12b1 : (t186 != 0) = false := bne_eq_false_iff_eq.mpr c12
      clear c12
      (first | rw [c12b0] | (simp only [i64_w, i32_w]; rw [c12b0]) | skip)
      by_cases c13 : t184 = 30
      · rw [if_pos c13] at H
        have c13b0 : (t184 == 30) = true := beq_iff_eq.mpr c13
        have c13b1 : (t184 != 30) = false := bne_eq_false_iff_eq.mpr c13
        clear c13
        have H' := Aside0.mk H
        clear H
        go_wp2
        go_meet
        case rel => exact ⟨_, ((t185 != 40)), (by first | rfl | (simp; done) | (simp [*]; done)), H', ⟨by first | omega | exact Nat.le_refl _⟩, ⟨by repeat (first | (with_reducible first | exact HB.out | apply below_alloc | apply pw_below_drewN | apply below_drew1) | exact HB.out)⟩⟩
      · rw [if_neg c13] at H
        have c13b0 : (t184 == 30) = false := beq_eq_false_iff_ne.mpr c13
        have c13b1 : (t184 != 30) = true := bne_iff_ne.mpr c13
        have H' := Aside0.mk H
        clear H
        go_wp2
        go_meet
        case rel => exact ⟨_, (true), (by first | rfl | (simp; done) | (simp [*]; done)), H', ⟨by first | omega | exact Nat.le_refl _⟩, ⟨by repeat (first | (with_reducible first | exact HB.out | apply below_alloc | apply pw_below_drewN | apply below_drew1) | exact HB.out)⟩⟩
    · rw [if_neg c12] at H
      have c12b0 : (t186 == 0) = false := beq_eq_false_iff_ne.mpr c12
      have c12b1 : (t186 != 0) = true := bne_iff_ne.mpr c12
      (first | rw [c12b0] | (simp only [i64_w, i32_w]; rw [c12b0]) | skip)
      have H' := Aside0.mk H
      clear H
      go_wp2
      go_meet
      case rel => exact ⟨_, (true), (by first | rfl | (simp; done) | (simp [*]; done)), H', ⟨by first | omega | exact Nat.le_refl _⟩, ⟨by repeat (first | (with_reducible first | exact HB.out | apply below_alloc | apply pw_below_drewN | apply below_drew1) | exact HB.out)⟩⟩
  case rest =>
    clear HC6
    try clear c1
    try clear p2
    try clear c3
    try clear c12
    try clear c12b0
    try clear c12b1
    try clear c13
    try clear c13b0
    try clear c13b1
    obtain ⟨kq, x53_5, rfl, HA, HJ5, HB⟩ := hcut
    cases kq with
    | zero => exact absurd HA.out (by simp [stipendtop_WholeBands.j0])
    | succ kj5 =>
      have H := HA.out
      clear HA
      simp only [stipendtop_WholeBands.j0] at H
      by_cases c14 : x53_5 = true
      · subst c14
        have H1 : (some false) = some r := by rw [if_pos rfl] at H; exact H
        clear H
        have H := H1
        clear H1
        obtain rfl := Option.some.inj H
        go_wp2
        go_ret
        exact ⟨by first | rfl | (simp [errW_none, errW_some] <;> rfl) | (simp [*, errW_none, errW_some] <;> rfl), by repeat (first | (with_reducible first | exact HB.out | apply below_alloc | apply pw_below_drewN | apply below_drew1) | exact HB.out)⟩
      · replace c14 := Bool.eq_false_iff.mpr c14
        subst c14
        have H1 : ((band_Check.f kj5 l0).bind fun t187 => (if t187 = 0 then (stipendtop_WholeBands.j1 kj5 l0 l1 a2 (decide ((l1.length : Int) > 40))) else (stipendtop_WholeBands.j1 kj5 l0 l1 a2 true))) = some r := by rw [if_neg (show ¬ (false = true) by decide)] at H; exact H
        clear H
        have H := H1
        clear H1
        have HC15 := Aside0.mk H
        clear H
        go_upto_region 5 with (fail)
        go_cut [61] (fun v61 wc => ∃ (kq : Nat) (x61_14 : Bool), v61 = .bool x61_14 ∧ Aside0 (stipendtop_WholeBands.j1 kq l0 l1 a2 x61_14 = some r) ∧ Aside0 (kq ≤ kj5) ∧ Aside0 (Below w.heap.size w wc))
        case first =>
          have H := HC15.out
          clear HC15
          replace H := Option.bind_eq_some_iff.mp H
          obtain ⟨t187, A160, H⟩ := H
          replace H : (if t187 = 0 then (stipendtop_WholeBands.j1 kj5 l0 l1 a2 (decide ((l1.length : Int) > 40))) else (stipendtop_WholeBands.j1 kj5 l0 l1 a2 true)) = some r := H
          have A16 := Aside0.mk A160
          clear A160
          by_cases c17 : t187 = 0
          · rw [if_pos c17] at H
            have c17b0 : (t187 == 0) = true := beq_iff_eq.mpr c17
            have c17b1 : (t187 != 0) = false := bne_eq_false_iff_eq.mpr c17
            clear c17
            (first | rw [c17b0] | (simp only [i64_w, i32_w]; rw [c17b0]) | skip)
            have H' := Aside0.mk H
            clear H
            go_wp2_with (first | ((with_reducible refine gate_callee (f := 17) rfl ?_); refine goesL_ (some 55) rfl rfl Try.func17 (by kernel_rfl) rfl #[.slice A0 l0.length c0] rfl (by (try simp only [List.map_toArray, List.map_cons, List.map_nil]); first | done | rfl | (simp only [List.length_drop, List.length_take]; rfl)) ?_; (with_reducible refine (band_Check.calls kj5 _ _ l0 t187 _ ?side1 ?side2 A16.out).mono ?_); (case side1 => repeat (first | exact (Kd.C_below HR0.out HB.out) | (with_reducible refine Kd.C_alloc ?_ _) | (with_reducible refine Kd.C_drewN ?_ _) | (with_reducible refine Kd.C_drew ?_))); (case side2 => exact HC0.out); rintro e w18 ⟨rfl, hb⟩; refine ⟨_, rfl, ?_⟩; have n0_ := Aside0.mk (below_step (by repeat (first | (with_reducible first | exact HB.out | apply below_alloc | apply pw_below_drewN | apply below_drew1) | exact HB.out)) hb); clear HB; have HB := n0_; clear n0_; (try clear hb); (try clear hb2); (try clear hk); (try clear hi)))
            go_meet
            case rel => exact ⟨_, (decide ((l1.length : Int) > 40)), (by first | rfl | (simp; done) | (simp [*]; done)), H', ⟨by have := HJ5.out; first | omega | exact Nat.le_refl _⟩, ⟨by repeat (first | (with_reducible first | exact HB.out | apply below_alloc | apply pw_below_drewN | apply below_drew1) | exact HB.out)⟩⟩
          · rw [if_neg c17] at H
            have c17b0 : (t187 == 0) = false := beq_eq_false_iff_ne.mpr c17
            have c17b1 : (t187 != 0) = true := bne_iff_ne.mpr c17
            (first | rw [c17b0] | (simp only [i64_w, i32_w]; rw [c17b0]) | skip)
            have H' := Aside0.mk H
            clear H
            go_wp2_with (first | ((with_reducible refine gate_callee (f := 17) rfl ?_); refine goesL_ (some 55) rfl rfl Try.func17 (by kernel_rfl) rfl #[.slice A0 l0.length c0] rfl (by (try simp only [List.map_toArray, List.map_cons, List.map_nil]); first | done | rfl | (simp only [List.length_drop, List.length_take]; rfl)) ?_; (with_reducible refine (band_Check.calls kj5 _ _ l0 t187 _ ?side1 ?side2 A16.out).mono ?_); (case side1 => repeat (first | exact (Kd.C_below HR0.out HB.out) | (with_reducible refine Kd.C_alloc ?_ _) | (with_reducible refine Kd.C_drewN ?_ _) | (with_reducible refine Kd.C_drew ?_))); (case side2 => exact HC0.out); rintro e w19 ⟨rfl, hb⟩; refine ⟨_, rfl, ?_⟩; have n0_ := Aside0.mk (below_step (by repeat (first | (with_reducible first | exact HB.out | apply below_alloc | apply pw_below_drewN | apply below_drew1) | exact HB.out)) hb); clear HB; have HB := n0_; clear n0_; (try clear hb); (try clear hb2); (try clear hk); (try clear hi)))
            go_meet
            case rel => exact ⟨_, (true), (by first | rfl | (simp; done) | (simp [*]; done)), H', ⟨by have := HJ5.out; first | omega | exact Nat.le_refl _⟩, ⟨by repeat (first | (with_reducible first | exact HB.out | apply below_alloc | apply pw_below_drewN | apply below_drew1) | exact HB.out)⟩⟩
        case rest =>
          clear HC15
          try clear c1
          try clear p2
          try clear c3
          try clear c12
          try clear c12b0
          try clear c12b1
          try clear c13
          try clear c13b0
          try clear c13b1
          try clear c14
          try clear c15
          try clear c16
          try clear c17
          try clear c17b0
          try clear c17b1
          try clear p2
          obtain ⟨kq, x61_14, rfl, HA, HJ14, HB⟩ := hcut
          cases kq with
          | zero => exact absurd HA.out (by simp [stipendtop_WholeBands.j1])
          | succ kj14 =>
            have H := HA.out
            clear HA
            simp only [stipendtop_WholeBands.j1] at H
            by_cases c20 : x61_14 = true
            · subst c20
              have H1 : (some true) = some r := by rw [if_pos rfl] at H; exact H
              clear H
              have H := H1
              clear H1
              obtain rfl := Option.some.inj H
              go_wp2
              go_ret
              exact ⟨by first | rfl | (simp [errW_none, errW_some] <;> rfl) | (simp [*, errW_none, errW_some] <;> rfl), by repeat (first | (with_reducible first | exact HB.out | apply below_alloc | apply pw_below_drewN | apply below_drew1) | exact HB.out)⟩
            · replace c20 := Bool.eq_false_iff.mpr c20
              subst c20
              have H1 : (stipendtop_WholeBands.l0 kj14 l0 a2 0 0 l1 (l1.length : Int) 0) = some r := by rw [if_neg (show ¬ (false = true) by decide)] at H; exact H
              clear H
              have H := H1
              clear H1
              have H' := Aside0.mk H
              clear H
              go_wp2
              go_loopg [12, 13, 64] kj14 (fun kq v12 v13 v64 w' => ∃ (x12_3 : Int) (x13_3 : Int) (x64_3 : Int), v12 = .int .i64 x12_3 ∧ v13 = .int .i64 x13_3 ∧ v64 = .int .i64 x64_3 ∧ Aside0 (stipendtop_WholeBands.l0 kq l0 a2 x12_3 x13_3 l1 (l1.length : Int) x64_3 = some r) ∧ Aside0 (kq ≤ kj14) ∧ Aside0 (Below w.heap.size w w'))
              case atStart => exact ⟨(0), (0), (0), (by first | rfl | (simp; done) | (simp [*]; done)), (by first | rfl | (simp; done) | (simp [*]; done)), (by first | rfl | (simp; done) | (simp [*]; done)), H', ⟨Nat.le_refl _⟩, ⟨by repeat (first | (with_reducible first | exact HB.out | apply below_alloc | apply pw_below_drewN | apply below_drew1) | exact HB.out)⟩⟩
              case round =>
                clear H'
                try clear c1
                try clear c2
                try clear p2
                try clear c3
                try clear c12
                try clear c12b0
                try clear c12b1
                try clear c13
                try clear c13b0
                try clear c13b1
                try clear c14
                try clear c15
                try clear c16
                try clear c17
                try clear c17b0
                try clear c17b1
                try clear c20
                try clear p2
                obtain ⟨x12_3, x13_3, x64_3, rfl, rfl, rfl, HA, HK3, HB⟩ := hrel
                cases gk with
                | zero => exact absurd HA.out (by simp [stipendtop_WholeBands.l0])
                | succ k3 =>
                  have H := HA.out
                  clear HA
                  simp only [stipendtop_WholeBands.l0] at H
                  by_cases c21 : x64_3 < (l1.length : Int)
                  · rw [if_pos c21] at H
                    have c21b0 : decide (x64_3 < (l1.length : Int)) = true := decide_eq_true c21
                    clear c21
                    by_cases c22 : 0 ≤ x64_3
                    · rw [if_pos c22] at H
                      have c22b0 : decide (0 ≤ x64_3) = true := decide_eq_true c22
                      clear c22
                      by_cases c23 : x64_3 < (l1.length : Int)
                      · rw [if_pos c23] at H
                        have c23b0 : decide (x64_3 < (l1.length : Int)) = true := decide_eq_true c23
                        clear c23
                        have HC24 := Aside0.mk H
                        clear H
                        have p188 : 0 ≤ (x64_3 : Int) := of_decide_eq_true (by first | (with_reducible assumption) | assumption)
                        have q188 : x64_3 < (l1.length : Int) := of_decide_eq_true (by first | (with_reducible assumption) | assumption)
                        obtain ⟨ad188, e188, hx188_0⟩ := Kd.at_int HR1.out x64_3 p188 q188
                        cases e188
                        replace hx188_0 := (HB.out.cell (World.block_lt_of_cell? w _ hx188_0)).trans hx188_0
                        replace p188 := eq_true p188
                        replace q188 := eq_true q188
                        go_upto_region 12 with (fail)
                        go_cut [73] (fun v73 wc => ∃ (kq : Nat) (x73_23 : Bool), v73 = .bool x73_23 ∧ Aside0 (stipendtop_WholeBands.j3 kq l0 a2 x12_3 x13_3 (rd l1 x64_3) l1 (l1.length : Int) x64_3 x73_23 = some r) ∧ Aside0 (kq ≤ k3) ∧ Aside0 (Below w.heap.size w wc))
                        case first =>
                          have H := HC24.out
                          clear HC24
                          by_cases c25 : (rd l1 x64_3) < 0
                          · rw [if_pos c25] at H
                            have c25b0 : decide ((rd l1 x64_3) < 0) = true := decide_eq_true c25
                            clear c25
                            (first | rw [c25b0] | (simp only [i64_w, i32_w]; rw [c25b0]) | skip)
                            have H' := Aside0.mk H
                            clear H
                            go_wp2
                            go_meet
                            case rel => exact ⟨_, (true), (by first | rfl | (simp; done) | (simp [*]; done)), H', ⟨by have := HJ5.out; have := HJ14.out; have := HK3.out; first | omega | exact Nat.le_refl _⟩, ⟨by repeat (first | (with_reducible first | exact HB.out | apply below_alloc | apply pw_below_drewN | apply below_drew1) | exact HB.out)⟩⟩
                          · rw [if_neg c25] at H
                            have c25b0 : decide ((rd l1 x64_3) < 0) = false := decide_eq_false c25
                            clear c25
                            (first | rw [c25b0] | (simp only [i64_w, i32_w]; rw [c25b0]) | skip)
                            have H' := Aside0.mk H
                            clear H
                            go_wp2
                            go_meet
                            case rel => exact ⟨_, (decide ((rd l1 x64_3) > 2000000000)), (by first | rfl | (simp; done) | (simp [*]; done)), H', ⟨by have := HJ5.out; have := HJ14.out; have := HK3.out; first | omega | exact Nat.le_refl _⟩, ⟨by repeat (first | (with_reducible first | exact HB.out | apply below_alloc | apply pw_below_drewN | apply below_drew1) | exact HB.out)⟩⟩
                        case rest =>
                          clear HC24
                          try clear c1
                          try clear p1
                          try clear q1
                          try clear hx1
                          try clear c2
                          try clear p2
                          try clear c3
                          try clear c12
                          try clear c12b0
                          try clear c12b1
                          try clear c13
                          try clear c13b0
                          try clear c13b1
                          try clear c14
                          try clear c15
                          try clear c16
                          try clear c17
                          try clear c17b0
                          try clear c17b1
                          try clear p18
                          try clear q18
                          try clear hx18
                          try clear c20
                          try clear c21
                          try clear c21b0
                          try clear c22
                          try clear c22b0
                          try clear c23
                          try clear c23b0
                          try clear c25
                          try clear c25b0
                          try clear hx188_0
                          try clear p188
                          try clear p2
                          try clear q188
                          obtain ⟨kq, x73_23, rfl, HA, HJ23, HB⟩ := hcut
                          cases kq with
                          | zero => exact absurd HA.out (by simp [stipendtop_WholeBands.j3])
                          | succ kj23 =>
                            have H := HA.out
                            clear HA
                            simp only [stipendtop_WholeBands.j3] at H
                            by_cases c26 : x73_23 = true
                            · subst c26
                              have H1 : (some true) = some r := by rw [if_pos rfl] at H; exact H
                              clear H
                              have H := H1
                              clear H1
                              obtain rfl := Option.some.inj H
                              go_wp2
                              go_ret
                              exact ⟨by first | rfl | (simp [errW_none, errW_some] <;> rfl) | (simp [*, errW_none, errW_some] <;> rfl), by repeat (first | (with_reducible first | exact HB.out | apply below_alloc | apply pw_below_drewN | apply below_drew1) | exact HB.out)⟩
                            · replace c26 := Bool.eq_false_iff.mpr c26
                              subst c26
                              have H1 : ((band_Between.f kj23 x12_3 (wrap64 (x12_3 + (rd l1 x64_3))) l0).bind fun bt189 => (if bt189.2 = 0 then (stipendtop_WholeBands.l0 kj23 l0 a2 (wrap64 (x12_3 + (rd l1 x64_3))) (wrap64 (x13_3 + bt189.1)) l1 (l1.length : Int) (wrap64 (x64_3 + 1))) else (some false))) = some r := by rw [if_neg (show ¬ (false = true) by decide)] at H; exact H
                              clear H
                              have H := H1
                              clear H1
                              replace H := Option.bind_eq_some_iff.mp H
                              obtain ⟨⟨t189, t190⟩, A270, H⟩ := H
                              replace H : (if t190 = 0 then (stipendtop_WholeBands.l0 kj23 l0 a2 (wrap64 (x12_3 + (rd l1 x64_3))) (wrap64 (x13_3 + t189)) l1 (l1.length : Int) (wrap64 (x64_3 + 1))) else (some false)) = some r := H
                              have A27 := Aside0.mk A270
                              clear A270
                              by_cases c28 : t190 = 0
                              · rw [if_pos c28] at H
                                have c28b0 : (t190 == 0) = true := beq_iff_eq.mpr c28
                                have c28b1 : (t190 != 0) = false := bne_eq_false_iff_eq.mpr c28
                                clear c28
                                have H' := Aside0.mk H
                                clear H
                                go_wp2_with (first | ((with_reducible refine gate_callee (f := 18) rfl ?_); refine goesL_ (some 80) rfl rfl Try.func18 (by kernel_rfl) rfl #[.int .i64 x12_3, .int .i64 (wrap64 (x12_3 + (rd l1 x64_3))), .slice A0 l0.length c0] rfl (by (try simp only [List.map_toArray, List.map_cons, List.map_nil]); first | done | rfl | (simp only [List.length_drop, List.length_take]; rfl)) ?_; (with_reducible refine (band_Between.calls kj23 x12_3 (wrap64 (x12_3 + (rd l1 x64_3))) _ _ l0 t189 t190 _ ?side1 ?side2 A27.out).mono ?_); (case side1 => repeat (first | exact (Kd.C_below HR0.out HB.out) | (with_reducible refine Kd.C_alloc ?_ _) | (with_reducible refine Kd.C_drewN ?_ _) | (with_reducible refine Kd.C_drew ?_))); (case side2 => exact HC0.out); rintro e w29 ⟨rfl, hb⟩; refine ⟨_, rfl, ?_⟩; have n0_ := Aside0.mk (below_step (by repeat (first | (with_reducible first | exact HB.out | apply below_alloc | apply pw_below_drewN | apply below_drew1) | exact HB.out)) hb); clear HB; have HB := n0_; clear n0_; (try clear hb); (try clear hb2); (try clear hk); (try clear hi)))
                                go_roundg kj23
                                case measure => have := HJ5.out; have := HJ14.out; have := HK3.out; have := HJ23.out; omega
                                case rel => exact ⟨(wrap64 (x12_3 + (rd l1 x64_3))), (wrap64 (x13_3 + t189)), (wrap64 (x64_3 + 1)), (by first | rfl | (simp; done) | (simp [*]; done)), (by first | rfl | (simp; done) | (simp [*]; done)), (by first | rfl | (simp; done) | (simp [*]; done)), H', ⟨by have := HJ5.out; have := HJ14.out; have := HK3.out; have := HJ23.out; omega⟩, ⟨by repeat (first | (with_reducible first | exact HB.out | apply below_alloc | apply pw_below_drewN | apply below_drew1) | exact HB.out)⟩⟩
                              · rw [if_neg c28] at H
                                have c28b0 : (t190 == 0) = false := beq_eq_false_iff_ne.mpr c28
                                have c28b1 : (t190 != 0) = true := bne_iff_ne.mpr c28
                                obtain rfl := Option.some.inj H
                                go_wp2_with (first | ((with_reducible refine gate_callee (f := 18) rfl ?_); refine goesL_ (some 80) rfl rfl Try.func18 (by kernel_rfl) rfl #[.int .i64 x12_3, .int .i64 (wrap64 (x12_3 + (rd l1 x64_3))), .slice A0 l0.length c0] rfl (by (try simp only [List.map_toArray, List.map_cons, List.map_nil]); first | done | rfl | (simp only [List.length_drop, List.length_take]; rfl)) ?_; (with_reducible refine (band_Between.calls kj23 x12_3 (wrap64 (x12_3 + (rd l1 x64_3))) _ _ l0 t189 t190 _ ?side1 ?side2 A27.out).mono ?_); (case side1 => repeat (first | exact (Kd.C_below HR0.out HB.out) | (with_reducible refine Kd.C_alloc ?_ _) | (with_reducible refine Kd.C_drewN ?_ _) | (with_reducible refine Kd.C_drew ?_))); (case side2 => exact HC0.out); rintro e w30 ⟨rfl, hb⟩; refine ⟨_, rfl, ?_⟩; have n0_ := Aside0.mk (below_step (by repeat (first | (with_reducible first | exact HB.out | apply below_alloc | apply pw_below_drewN | apply below_drew1) | exact HB.out)) hb); clear HB; have HB := n0_; clear n0_; (try clear hb); (try clear hb2); (try clear hk); (try clear hi)))
                                go_ret
                                exact ⟨by first | rfl | (simp [errW_none, errW_some] <;> rfl) | (simp [*, errW_none, errW_some] <;> rfl), by repeat (first | (with_reducible first | exact HB.out | apply below_alloc | apply pw_below_drewN | apply below_drew1) | exact HB.out)⟩
                      · rw [if_neg c23] at H
                        exact absurd H (by simp)
                    · rw [if_neg c22] at H
                      exact absurd H (by simp)
                  · rw [if_neg c21] at H
                    have c21b0 : decide (x64_3 < (l1.length : Int)) = false := decide_eq_false c21
                    clear c21
                    replace H := Option.bind_eq_some_iff.mp H
                    obtain ⟨⟨t191, t192⟩, A310, H⟩ := H
                    replace H : ((band_Employer.f k3 x12_3 l0).bind fun bt193 => ((pair_Banded.f k3 x12_3 l0).bind fun bt195 => ((pair_Of.f t191 bt193.1).bind fun bt197 => (if (wrap64 ((wrap64 ((wrap64 (t192 + bt193.2)) + bt195.2)) + bt197.2)) = 0 then (if t191 = x13_3 then (if Flt.feq bt195.1.1 bt195.1.2 bt197.1.1 bt197.1.2 = true then (stipendtop_WholeBands.j4 k3 a2 t191 bt193.1 bt195.1 (!(bt195.1.1 == bt197.1.1 && bt195.1.2 == bt197.1.2))) else (none)) else (stipendtop_WholeBands.j4 k3 a2 t191 bt193.1 bt195.1 true)) else (stipendtop_WholeBands.j4 k3 a2 t191 bt193.1 bt195.1 true))))) = some r := H
                    have A31 := Aside0.mk A310
                    clear A310
                    replace H := Option.bind_eq_some_iff.mp H
                    obtain ⟨⟨t193, t194⟩, A320, H⟩ := H
                    replace H : ((pair_Banded.f k3 x12_3 l0).bind fun bt195 => ((pair_Of.f t191 t193).bind fun bt197 => (if (wrap64 ((wrap64 ((wrap64 (t192 + t194)) + bt195.2)) + bt197.2)) = 0 then (if t191 = x13_3 then (if Flt.feq bt195.1.1 bt195.1.2 bt197.1.1 bt197.1.2 = true then (stipendtop_WholeBands.j4 k3 a2 t191 t193 bt195.1 (!(bt195.1.1 == bt197.1.1 && bt195.1.2 == bt197.1.2))) else (none)) else (stipendtop_WholeBands.j4 k3 a2 t191 t193 bt195.1 true)) else (stipendtop_WholeBands.j4 k3 a2 t191 t193 bt195.1 true)))) = some r := H
                    have A32 := Aside0.mk A320
                    clear A320
                    replace H := Option.bind_eq_some_iff.mp H
                    obtain ⟨⟨t195, t196⟩, A330, H⟩ := H
                    replace H : ((pair_Of.f t191 t193).bind fun bt197 => (if (wrap64 ((wrap64 ((wrap64 (t192 + t194)) + t196)) + bt197.2)) = 0 then (if t191 = x13_3 then (if Flt.feq t195.1 t195.2 bt197.1.1 bt197.1.2 = true then (stipendtop_WholeBands.j4 k3 a2 t191 t193 t195 (!(t195.1 == bt197.1.1 && t195.2 == bt197.1.2))) else (none)) else (stipendtop_WholeBands.j4 k3 a2 t191 t193 t195 true)) else (stipendtop_WholeBands.j4 k3 a2 t191 t193 t195 true))) = some r := H
                    have A33 := Aside0.mk A330
                    clear A330
                    replace H := Option.bind_eq_some_iff.mp H
                    obtain ⟨⟨t197, t198⟩, A340, H⟩ := H
                    replace H : (if (wrap64 ((wrap64 ((wrap64 (t192 + t194)) + t196)) + t198)) = 0 then (if t191 = x13_3 then (if Flt.feq t195.1 t195.2 t197.1 t197.2 = true then (stipendtop_WholeBands.j4 k3 a2 t191 t193 t195 (!(t195.1 == t197.1 && t195.2 == t197.2))) else (none)) else (stipendtop_WholeBands.j4 k3 a2 t191 t193 t195 true)) else (stipendtop_WholeBands.j4 k3 a2 t191 t193 t195 true)) = some r := H
                    have A34 := Aside0.mk A340
                    clear A340
                    have HC35 := Aside0.mk H
                    clear H
                    go_upto_region 24 with (first | ((with_reducible refine gate_callee (f := 19) rfl ?_); refine goesL_ (some 95) rfl rfl Try.func19 (by kernel_rfl) rfl #[.int .i64 x12_3, .slice A0 l0.length c0] rfl (by (try simp only [List.map_toArray, List.map_cons, List.map_nil]); first | done | rfl | (simp only [List.length_drop, List.length_take]; rfl)) ?_; (with_reducible refine (band_Exact.calls k3 x12_3 _ _ l0 t191 t192 _ ?side1 ?side2 A31.out).mono ?_); (case side1 => repeat (first | exact (Kd.C_below HR0.out HB.out) | (with_reducible refine Kd.C_alloc ?_ _) | (with_reducible refine Kd.C_drewN ?_ _) | (with_reducible refine Kd.C_drew ?_))); (case side2 => exact HC0.out); rintro e w36 ⟨rfl, hb⟩; refine ⟨_, rfl, ?_⟩; have n0_ := Aside0.mk (below_step (by repeat (first | (with_reducible first | exact HB.out | apply below_alloc | apply pw_below_drewN | apply below_drew1) | exact HB.out)) hb); clear HB; have HB := n0_; clear n0_; (try clear hb); (try clear hb2); (try clear hk); (try clear hi)) | ((with_reducible refine gate_callee (f := 20) rfl ?_); refine goesL_ (some 101) rfl rfl Try.func20 (by kernel_rfl) rfl #[.int .i64 x12_3, .slice A0 l0.length c0] rfl (by (try simp only [List.map_toArray, List.map_cons, List.map_nil]); first | done | rfl | (simp only [List.length_drop, List.length_take]; rfl)) ?_; (with_reducible refine (band_Employer.calls k3 x12_3 _ _ l0 t193 t194 _ ?side1 ?side2 A32.out).mono ?_); (case side1 => repeat (first | exact (Kd.C_below HR0.out HB.out) | (with_reducible refine Kd.C_alloc ?_ _) | (with_reducible refine Kd.C_drewN ?_ _) | (with_reducible refine Kd.C_drew ?_))); (case side2 => exact HC0.out); rintro e w37 ⟨rfl, hb⟩; refine ⟨_, rfl, ?_⟩; have n0_ := Aside0.mk (below_step (by repeat (first | (with_reducible first | exact HB.out | apply below_alloc | apply pw_below_drewN | apply below_drew1) | exact HB.out)) hb); clear HB; have HB := n0_; clear n0_; (try clear hb); (try clear hb2); (try clear hk); (try clear hi)) | ((with_reducible refine gate_callee (f := 15) rfl ?_); refine goesL_ (some 107) rfl rfl Try.func15 (by kernel_rfl) rfl #[.int .i64 x12_3, .slice A0 l0.length c0] rfl (by (try simp only [List.map_toArray, List.map_cons, List.map_nil]); first | done | rfl | (simp only [List.length_drop, List.length_take]; rfl)) ?_; (with_reducible refine (pair_Banded.calls k3 x12_3 _ _ l0 t195 t196 _ ?side1 ?side2 A33.out).mono ?_); (case side1 => repeat (first | exact (Kd.C_below HR0.out HB.out) | (with_reducible refine Kd.C_alloc ?_ _) | (with_reducible refine Kd.C_drewN ?_ _) | (with_reducible refine Kd.C_drew ?_))); (case side2 => exact HC0.out); rintro e w38 ⟨rfl, hb⟩; refine ⟨_, rfl, ?_⟩; have n0_ := Aside0.mk (below_step (by repeat (first | (with_reducible first | exact HB.out | apply below_alloc | apply pw_below_drewN | apply below_drew1) | exact HB.out)) hb); clear HB; have HB := n0_; clear n0_; (try clear hb); (try clear hb2); (try clear hk); (try clear hi)) | ((with_reducible refine gate_callee (f := 21) rfl ?_); refine goesL_ (some 113) rfl rfl Try.func21 (by kernel_rfl) rfl #[.int .i64 t191, .int .i64 t193] rfl (by (try simp only [List.map_toArray, List.map_cons, List.map_nil]); first | done | rfl | (simp only [List.length_drop, List.length_take]; rfl)) ?_; (with_reducible refine (pair_Of.calls t191 t193 t197 t198 _ A34.out).mono ?_); rintro e w39 ⟨rfl, hb⟩; refine ⟨_, rfl, ?_⟩; have n0_ := Aside0.mk (below_step (by repeat (first | (with_reducible first | exact HB.out | apply below_alloc | apply pw_below_drewN | apply below_drew1) | exact HB.out)) hb); clear HB; have HB := n0_; clear n0_; (try clear hb); (try clear hb2); (try clear hk); (try clear hi)))
                    (try simp only [Act.put, List.setIfInBounds_toArray, List.set_cons_zero, List.set_cons_succ])
                    go_cut [133] (fun v133 wc => ∃ (kq : Nat) (x133_34 : Bool), v133 = .bool x133_34 ∧ Aside0 (stipendtop_WholeBands.j4 kq a2 t191 t193 t195 x133_34 = some r) ∧ Aside0 (kq ≤ k3) ∧ Aside0 (Below w.heap.size w wc))
                    case first =>
                      have H := HC35.out
                      clear HC35
                      by_cases c40 : (wrap64 ((wrap64 ((wrap64 (t192 + t194)) + t196)) + t198)) = 0
                      · rw [if_pos c40] at H
                        have c40b0 : ((wrap64 ((wrap64 ((wrap64 (t192 + t194)) + t196)) + t198)) == 0) = true := beq_iff_eq.mpr c40
                        have c40b1 : ((wrap64 ((wrap64 ((wrap64 (t192 + t194)) + t196)) + t198)) != 0) = false := bne_eq_false_iff_eq.mpr c40
                        clear c40
                        (first | rw [c40b0] | (simp only [i64_w, i32_w]; rw [c40b0]) | skip)
                        by_cases c41 : t191 = x13_3
                        · rw [if_pos c41] at H
                          have c41b0 : (t191 == x13_3) = true := beq_iff_eq.mpr c41
                          have c41b1 : (t191 != x13_3) = false := bne_eq_false_iff_eq.mpr c41
                          clear c41
                          by_cases c42 : Flt.feq t195.1 t195.2 t197.1 t197.2 = true
                          · rw [if_pos c42] at H
                            have c42b0 : Flt.feq t195.1 t195.2 t197.1 t197.2 = true := c42
                            have hfc42_0 := Flt.neq_c (P := Try.prog) (t := 24) (of_decide_eq_true c42b0)
                            have hfc42_1 := Flt.neq_c (P := Try.prog) (t := 25) (of_decide_eq_true c42b0)
                            clear c42
                            have H' := Aside0.mk H
                            clear H
                            go_wp2
                            go_meet
                            case rel => exact ⟨_, ((!(t195.1 == t197.1 && t195.2 == t197.2))), (by first | rfl | (simp; done) | (simp [*]; done)), H', ⟨by have := HJ5.out; have := HJ14.out; have := HK3.out; first | omega | exact Nat.le_refl _⟩, ⟨by repeat (first | (with_reducible first | exact HB.out | apply below_alloc | apply pw_below_drewN | apply below_drew1) | exact HB.out)⟩⟩
                          · rw [if_neg c42] at H
                            exact absurd H (by simp)
                        · rw [if_neg c41] at H
                          have c41b0 : (t191 == x13_3) = false := beq_eq_false_iff_ne.mpr c41
                          have c41b1 : (t191 != x13_3) = true := bne_iff_ne.mpr c41
                          have H' := Aside0.mk H
                          clear H
                          go_wp2
                          go_meet
                          case rel => exact ⟨_, (true), (by first | rfl | (simp; done) | (simp [*]; done)), H', ⟨by have := HJ5.out; have := HJ14.out; have := HK3.out; first | omega | exact Nat.le_refl _⟩, ⟨by repeat (first | (with_reducible first | exact HB.out | apply below_alloc | apply pw_below_drewN | apply below_drew1) | exact HB.out)⟩⟩
                      · rw [if_neg c40] at H
                        have c40b0 : ((wrap64 ((wrap64 ((wrap64 (t192 + t194)) + t196)) + t198)) == 0) = false := beq_eq_false_iff_ne.mpr c40
                        have c40b1 : ((wrap64 ((wrap64 ((wrap64 (t192 + t194)) + t196)) + t198)) != 0) = true := bne_iff_ne.mpr c40
                        (first | rw [c40b0] | (simp only [i64_w, i32_w]; rw [c40b0]) | skip)
                        have H' := Aside0.mk H
                        clear H
                        go_wp2
                        go_meet
                        case rel => exact ⟨_, (true), (by first | rfl | (simp; done) | (simp [*]; done)), H', ⟨by have := HJ5.out; have := HJ14.out; have := HK3.out; first | omega | exact Nat.le_refl _⟩, ⟨by repeat (first | (with_reducible first | exact HB.out | apply below_alloc | apply pw_below_drewN | apply below_drew1) | exact HB.out)⟩⟩
                    case rest =>
                      clear HC35
                      try clear c1
                      try clear p1
                      try clear q1
                      try clear hx1
                      try clear c2
                      try clear p2
                      try clear c3
                      try clear c4
                      try clear p6
                      try clear c12
                      try clear c12b0
                      try clear c12b1
                      try clear c13
                      try clear c13b0
                      try clear c13b1
                      try clear c14
                      try clear c15
                      try clear c16
                      try clear c17
                      try clear c17b0
                      try clear c17b1
                      try clear c18
                      try clear p18
                      try clear q18
                      try clear hx18
                      try clear c19
                      try clear c20
                      try clear c21
                      try clear c21b0
                      try clear c22
                      try clear c22b0
                      try clear c23
                      try clear c23b0
                      try clear c25
                      try clear c25b0
                      try clear c26
                      try clear c28
                      try clear c28b0
                      try clear c28b1
                      try clear c40
                      try clear c40b0
                      try clear c40b1
                      try clear c41
                      try clear c41b0
                      try clear c41b1
                      try clear c42
                      try clear c42b0
                      try clear hx188_0
                      try clear p1
                      try clear p18
                      try clear p188
                      try clear p2
                      try clear q1
                      try clear q18
                      try clear q188
                      obtain ⟨kq, x133_34, rfl, HA, HJ34, HB⟩ := hcut
                      cases kq with
                      | zero => exact absurd HA.out (by simp [stipendtop_WholeBands.j4])
                      | succ kj34 =>
                        have H := HA.out
                        clear HA
                        simp only [stipendtop_WholeBands.j4] at H
                        by_cases c43 : x133_34 = true
                        · subst c43
                          have H1 : (some false) = some r := by rw [if_pos rfl] at H; exact H
                          clear H
                          have H := H1
                          clear H1
                          obtain rfl := Option.some.inj H
                          go_wp2
                          go_ret
                          exact ⟨by first | rfl | (simp [errW_none, errW_some] <;> rfl) | (simp [*, errW_none, errW_some] <;> rfl), by repeat (first | (with_reducible first | exact HB.out | apply below_alloc | apply pw_below_drewN | apply below_drew1) | exact HB.out)⟩
                        · replace c43 := Bool.eq_false_iff.mpr c43
                          subst c43
                          have H1 : ((pair_Coins.f kj34 t195 a2).bind fun bt199 => ((frac_Coins.f kj34 t191 a2).bind fun bt203 => ((frac_Coins.f kj34 t193 a2).bind fun bt205 => (if bt199.2.2 = bt203.2 then (if bt203.2 = bt205.2 then (some (bt199.1 == bt203.1 && (bt199.2.1 == bt205.1))) else (some false)) else (some false))))) = some r := by rw [if_neg (show ¬ (false = true) by decide)] at H; exact H
                          clear H
                          have H := H1
                          clear H1
                          replace H := Option.bind_eq_some_iff.mp H
                          obtain ⟨⟨t199, t200, t201⟩, A440, H⟩ := H
                          replace H : ((frac_Coins.f kj34 t191 a2).bind fun bt203 => ((frac_Coins.f kj34 t193 a2).bind fun bt205 => (if t201 = bt203.2 then (if bt203.2 = bt205.2 then (some (t199 == bt203.1 && (t200 == bt205.1))) else (some false)) else (some false)))) = some r := H
                          have A44 := Aside0.mk A440
                          clear A440
                          replace H := Option.bind_eq_some_iff.mp H
                          obtain ⟨⟨t203, t204⟩, A450, H⟩ := H
                          replace H : ((frac_Coins.f kj34 t193 a2).bind fun bt205 => (if t201 = t204 then (if t204 = bt205.2 then (some (t199 == t203 && (t200 == bt205.1))) else (some false)) else (some false))) = some r := H
                          have A45 := Aside0.mk A450
                          clear A450
                          replace H := Option.bind_eq_some_iff.mp H
                          obtain ⟨⟨t205, t206⟩, A460, H⟩ := H
                          replace H : (if t201 = t204 then (if t204 = t206 then (some (t199 == t203 && (t200 == t205))) else (some false)) else (some false)) = some r := H
                          have A46 := Aside0.mk A460
                          clear A460
                          by_cases c47 : t201 = t204
                          · rw [if_pos c47] at H
                            have c47b0 : (t201 == t204) = true := beq_iff_eq.mpr c47
                            have c47b1 : (t201 != t204) = false := bne_eq_false_iff_eq.mpr c47
                            clear c47
                            by_cases c48 : t204 = t206
                            · rw [if_pos c48] at H
                              have c48b0 : (t204 == t206) = true := beq_iff_eq.mpr c48
                              have c48b1 : (t204 != t206) = false := bne_eq_false_iff_eq.mpr c48
                              clear c48
                              obtain rfl := Option.some.inj H
                              go_wp2_with (first | ((with_reducible refine gate_callee (f := 22) rfl ?_); refine goesL_ (some 137) rfl rfl Try.func22 (by kernel_rfl) rfl #[.complex .f64 (Flt.FI t195.1) (Flt.FI t195.2), .int .i64 a2] rfl (by (try simp only [List.map_toArray, List.map_cons, List.map_nil]); first | done | rfl | (simp only [List.length_drop, List.length_take]; rfl)) ?_; (with_reducible refine (pair_Coins.calls kj34 t195 a2 t199 t200 t201 _ A44.out).mono ?_); rintro e w49 ⟨rfl, hb⟩; refine ⟨_, rfl, ?_⟩; have n0_ := Aside0.mk (below_step (by repeat (first | (with_reducible first | exact HB.out | apply below_alloc | apply pw_below_drewN | apply below_drew1) | exact HB.out)) hb); clear HB; have HB := n0_; clear n0_; (try clear hb); (try clear hb2); (try clear hk); (try clear hi)) | ((with_reducible refine gate_dst (N := 26) rfl ?_); refine box_event ?hg (N := 26) ?hd (cs := #[.int .i64 0, .int .i64 0]) (t := 40) ?hr ?_; (case hd => rfl); (case hg => rfl); (case hr => first | (go_simp; done) | (go_simp; rfl)); intro gb202 hg w50 hbox hb; have n0_ := Aside0.mk (below_step (by repeat (first | (with_reducible first | exact HB.out | apply below_alloc | apply pw_below_drewN | apply below_drew1) | exact HB.out)) hb); have n1_ := Aside0.mk (hbox); have n2_ := Aside0.mk ((by rw [hg]; exact (below_size (by repeat (first | (with_reducible first | exact HB.out | apply below_alloc | apply pw_below_drewN | apply below_drew1) | exact HB.out))) : w.heap.size ≤ gb202)); have n3_ := Aside0.mk ((by rw [hg]; exact (below_size (by repeat (first | (with_reducible first | exact HB.out | apply below_alloc | apply pw_below_drewN | apply below_drew1) | exact HB.out))) : w.heap.size ≤ gb202)); clear HB; have HB := n0_; have BK202 := n1_; have GW202 := n2_; have GE202 := n3_; clear n0_ n1_ n2_ n3_; clear hb hbox hg; have hcz51_0 : w50.cell? ⟨gb202, 0, none⟩ = some (.int .i64 0) := (blk_cell BK202.out 0).trans rfl; have hcz51_1 : w50.cell? ⟨gb202, 1, none⟩ = some (.int .i64 0) := (blk_cell BK202.out 1).trans rfl; have hfz51_0 := blk_frozen BK202.out 0; have hfz51_1 := blk_frozen BK202.out 1) | ((with_reducible refine gate_callee (f := 23) rfl ?_); refine goesL_ (some 143) rfl rfl Try.func23 (by kernel_rfl) rfl #[.int .i64 t191, .int .i64 a2] rfl (by (try simp only [List.map_toArray, List.map_cons, List.map_nil]); first | done | rfl | (simp only [List.length_drop, List.length_take]; rfl)) ?_; (with_reducible refine (frac_Coins.calls kj34 t191 a2 t203 t204 _ A45.out).mono ?_); rintro e w' ⟨rfl, ⟨nd, rfl⟩⟩; refine ⟨_, rfl, ?_⟩) | ((with_reducible refine gate_callee (f := 23) rfl ?_); refine goesL_ (some 149) rfl rfl Try.func23 (by kernel_rfl) rfl #[.int .i64 t193, .int .i64 a2] rfl (by (try simp only [List.map_toArray, List.map_cons, List.map_nil]); first | done | rfl | (simp only [List.length_drop, List.length_take]; rfl)) ?_; (with_reducible refine (frac_Coins.calls kj34 t193 a2 t205 t206 _ A46.out).mono ?_); rintro e w' ⟨rfl, ⟨nd, rfl⟩⟩; refine ⟨_, rfl, ?_⟩))
                              go_ret
                              exact ⟨by first | rfl | (simp [errW_none, errW_some] <;> rfl) | (simp [*, errW_none, errW_some] <;> rfl), by repeat (first | (with_reducible first | exact HB.out | apply below_alloc | apply pw_below_drewN | apply below_drew1 | refine below_set ?_ GE202.out) | exact HB.out)⟩
                            · rw [if_neg c48] at H
                              have c48b0 : (t204 == t206) = false := beq_eq_false_iff_ne.mpr c48
                              have c48b1 : (t204 != t206) = true := bne_iff_ne.mpr c48
                              obtain rfl := Option.some.inj H
                              go_wp2_with (first | ((with_reducible refine gate_callee (f := 22) rfl ?_); refine goesL_ (some 137) rfl rfl Try.func22 (by kernel_rfl) rfl #[.complex .f64 (Flt.FI t195.1) (Flt.FI t195.2), .int .i64 a2] rfl (by (try simp only [List.map_toArray, List.map_cons, List.map_nil]); first | done | rfl | (simp only [List.length_drop, List.length_take]; rfl)) ?_; (with_reducible refine (pair_Coins.calls kj34 t195 a2 t199 t200 t201 _ A44.out).mono ?_); rintro e w52 ⟨rfl, hb⟩; refine ⟨_, rfl, ?_⟩; have n0_ := Aside0.mk (below_step (by repeat (first | (with_reducible first | exact HB.out | apply below_alloc | apply pw_below_drewN | apply below_drew1) | exact HB.out)) hb); clear HB; have HB := n0_; clear n0_; (try clear hb); (try clear hb2); (try clear hk); (try clear hi)) | ((with_reducible refine gate_dst (N := 26) rfl ?_); refine box_event ?hg (N := 26) ?hd (cs := #[.int .i64 0, .int .i64 0]) (t := 40) ?hr ?_; (case hd => rfl); (case hg => rfl); (case hr => first | (go_simp; done) | (go_simp; rfl)); intro gb202 hg w53 hbox hb; have n0_ := Aside0.mk (below_step (by repeat (first | (with_reducible first | exact HB.out | apply below_alloc | apply pw_below_drewN | apply below_drew1) | exact HB.out)) hb); have n1_ := Aside0.mk (hbox); have n2_ := Aside0.mk ((by rw [hg]; exact (below_size (by repeat (first | (with_reducible first | exact HB.out | apply below_alloc | apply pw_below_drewN | apply below_drew1) | exact HB.out))) : w.heap.size ≤ gb202)); have n3_ := Aside0.mk ((by rw [hg]; exact (below_size (by repeat (first | (with_reducible first | exact HB.out | apply below_alloc | apply pw_below_drewN | apply below_drew1) | exact HB.out))) : w.heap.size ≤ gb202)); clear HB; have HB := n0_; have BK202 := n1_; have GW202 := n2_; have GE202 := n3_; clear n0_ n1_ n2_ n3_; clear hb hbox hg; have hcz54_0 : w53.cell? ⟨gb202, 0, none⟩ = some (.int .i64 0) := (blk_cell BK202.out 0).trans rfl; have hcz54_1 : w53.cell? ⟨gb202, 1, none⟩ = some (.int .i64 0) := (blk_cell BK202.out 1).trans rfl; have hfz54_0 := blk_frozen BK202.out 0; have hfz54_1 := blk_frozen BK202.out 1) | ((with_reducible refine gate_callee (f := 23) rfl ?_); refine goesL_ (some 143) rfl rfl Try.func23 (by kernel_rfl) rfl #[.int .i64 t191, .int .i64 a2] rfl (by (try simp only [List.map_toArray, List.map_cons, List.map_nil]); first | done | rfl | (simp only [List.length_drop, List.length_take]; rfl)) ?_; (with_reducible refine (frac_Coins.calls kj34 t191 a2 t203 t204 _ A45.out).mono ?_); rintro e w' ⟨rfl, ⟨nd, rfl⟩⟩; refine ⟨_, rfl, ?_⟩) | ((with_reducible refine gate_callee (f := 23) rfl ?_); refine goesL_ (some 149) rfl rfl Try.func23 (by kernel_rfl) rfl #[.int .i64 t193, .int .i64 a2] rfl (by (try simp only [List.map_toArray, List.map_cons, List.map_nil]); first | done | rfl | (simp only [List.length_drop, List.length_take]; rfl)) ?_; (with_reducible refine (frac_Coins.calls kj34 t193 a2 t205 t206 _ A46.out).mono ?_); rintro e w' ⟨rfl, ⟨nd, rfl⟩⟩; refine ⟨_, rfl, ?_⟩))
                              go_ret
                              exact ⟨by first | rfl | (simp [errW_none, errW_some] <;> rfl) | (simp [*, errW_none, errW_some] <;> rfl), by repeat (first | (with_reducible first | exact HB.out | apply below_alloc | apply pw_below_drewN | apply below_drew1 | refine below_set ?_ GE202.out) | exact HB.out)⟩
                          · rw [if_neg c47] at H
                            have c47b0 : (t201 == t204) = false := beq_eq_false_iff_ne.mpr c47
                            have c47b1 : (t201 != t204) = true := bne_iff_ne.mpr c47
                            obtain rfl := Option.some.inj H
                            go_wp2_with (first | ((with_reducible refine gate_callee (f := 22) rfl ?_); refine goesL_ (some 137) rfl rfl Try.func22 (by kernel_rfl) rfl #[.complex .f64 (Flt.FI t195.1) (Flt.FI t195.2), .int .i64 a2] rfl (by (try simp only [List.map_toArray, List.map_cons, List.map_nil]); first | done | rfl | (simp only [List.length_drop, List.length_take]; rfl)) ?_; (with_reducible refine (pair_Coins.calls kj34 t195 a2 t199 t200 t201 _ A44.out).mono ?_); rintro e w55 ⟨rfl, hb⟩; refine ⟨_, rfl, ?_⟩; have n0_ := Aside0.mk (below_step (by repeat (first | (with_reducible first | exact HB.out | apply below_alloc | apply pw_below_drewN | apply below_drew1) | exact HB.out)) hb); clear HB; have HB := n0_; clear n0_; (try clear hb); (try clear hb2); (try clear hk); (try clear hi)) | ((with_reducible refine gate_dst (N := 26) rfl ?_); refine box_event ?hg (N := 26) ?hd (cs := #[.int .i64 0, .int .i64 0]) (t := 40) ?hr ?_; (case hd => rfl); (case hg => rfl); (case hr => first | (go_simp; done) | (go_simp; rfl)); intro gb202 hg w56 hbox hb; have n0_ := Aside0.mk (below_step (by repeat (first | (with_reducible first | exact HB.out | apply below_alloc | apply pw_below_drewN | apply below_drew1) | exact HB.out)) hb); have n1_ := Aside0.mk (hbox); have n2_ := Aside0.mk ((by rw [hg]; exact (below_size (by repeat (first | (with_reducible first | exact HB.out | apply below_alloc | apply pw_below_drewN | apply below_drew1) | exact HB.out))) : w.heap.size ≤ gb202)); have n3_ := Aside0.mk ((by rw [hg]; exact (below_size (by repeat (first | (with_reducible first | exact HB.out | apply below_alloc | apply pw_below_drewN | apply below_drew1) | exact HB.out))) : w.heap.size ≤ gb202)); clear HB; have HB := n0_; have BK202 := n1_; have GW202 := n2_; have GE202 := n3_; clear n0_ n1_ n2_ n3_; clear hb hbox hg; have hcz57_0 : w56.cell? ⟨gb202, 0, none⟩ = some (.int .i64 0) := (blk_cell BK202.out 0).trans rfl; have hcz57_1 : w56.cell? ⟨gb202, 1, none⟩ = some (.int .i64 0) := (blk_cell BK202.out 1).trans rfl; have hfz57_0 := blk_frozen BK202.out 0; have hfz57_1 := blk_frozen BK202.out 1) | ((with_reducible refine gate_callee (f := 23) rfl ?_); refine goesL_ (some 143) rfl rfl Try.func23 (by kernel_rfl) rfl #[.int .i64 t191, .int .i64 a2] rfl (by (try simp only [List.map_toArray, List.map_cons, List.map_nil]); first | done | rfl | (simp only [List.length_drop, List.length_take]; rfl)) ?_; (with_reducible refine (frac_Coins.calls kj34 t191 a2 t203 t204 _ A45.out).mono ?_); rintro e w' ⟨rfl, ⟨nd, rfl⟩⟩; refine ⟨_, rfl, ?_⟩) | ((with_reducible refine gate_callee (f := 23) rfl ?_); refine goesL_ (some 149) rfl rfl Try.func23 (by kernel_rfl) rfl #[.int .i64 t193, .int .i64 a2] rfl (by (try simp only [List.map_toArray, List.map_cons, List.map_nil]); first | done | rfl | (simp only [List.length_drop, List.length_take]; rfl)) ?_; (with_reducible refine (frac_Coins.calls kj34 t193 a2 t205 t206 _ A46.out).mono ?_); rintro e w' ⟨rfl, ⟨nd, rfl⟩⟩; refine ⟨_, rfl, ?_⟩))
                            go_ret
                            exact ⟨by first | rfl | (simp [errW_none, errW_some] <;> rfl) | (simp [*, errW_none, errW_some] <;> rfl), by repeat (first | (with_reducible first | exact HB.out | apply below_alloc | apply pw_below_drewN | apply below_drew1 | refine below_set ?_ GE202.out) | exact HB.out)⟩

end Go.Proofs.Ytfiomckebicphaa.B
