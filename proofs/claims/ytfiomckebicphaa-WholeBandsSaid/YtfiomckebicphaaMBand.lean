/- Plain facts on bands: what Check asks, and what an amount comes to by them: for each side by itself, and for both at once. -/
import Derived.Test.YtfiomckebicphaaB0
import Derived.Test.YtfiomckebicphaaBfracRate
import Derived.Test.YtfiomckebicphaaBbandCheck
import Derived.Test.YtfiomckebicphaaBmoneyRight
import Derived.Test.YtfiomckebicphaaBpairrates
import Derived.Test.YtfiomckebicphaaBpairBanded
import Derived.Test.YtfiomckebicphaaBfracPart
import Derived.Test.YtfiomckebicphaaBbandExact1
import Derived.Test.YtfiomckebicphaaBbandEmployer1
import Derived.Test.YtfiomckebicphaaBbandwidth
import Derived.Test.YtfiomckebicphaaBbandeachR
namespace Go.Proofs.Ytfiomckebicphaa.PB
open Go.RowKit Go.Proofs.Ytfiomckebicphaa.B Go.Proofs.YtfiomckebicphaaW.PrintWords Go.Proofs.YtfiomckebicphaaW.PrintLast

theorem w64 {x : Int} (h : -9223372036854775808 ≤ x ∧ x ≤ 9223372036854775807) : wrap64 x = x := by
  unfold wrap64
  omega
theorem mn_min (a b : Int) : mn a b = if a ≤ b then a else b := by unfold mn; split <;> split <;> omega
/-- What Check asks of the band number q. -/
def Cq (l : List S30) (q : Int) : Prop :=
  0 ≤ (rd_T30 l q).f0 ∧ (rd_T30 l q).f0 ≤ 100000000000 ∧ (q = 0 → (rd_T30 l q).f0 = 0) ∧ (0 < q → (rd_T30 l (q - 1)).f0 < (rd_T30 l q).f0) ∧
    0 ≤ (rd_T30 l q).f1 ∧ (rd_T30 l q).f1 ≤ 10000 ∧ 0 ≤ (rd_T30 l q).f2 ∧ (rd_T30 l q).f2 ≤ 10000
structure BL (l : List S30) : Prop where
  one : 1 ≤ l.length
  eight : l.length ≤ 8
  all : ∀ q : Int, 0 ≤ q → q < l.length → Cq l q
theorem rate_ok (a : Int) : frac_Rate.f a = some (decide (0 ≤ a ∧ a ≤ 10000)) := by
  unfold frac_Rate.f
  by_cases h : a ≥ 0
  · rw [if_pos h]; simp; omega
  · rw [if_neg h]; simp; omega
theorem check_l0 {l : List S30} (hl : l.length ≤ 8) : ∀ (j : Nat) (i : Int) (K : Nat), 0 ≤ i → i + j + 1 = l.length → 4 * j + 10 ≤ K →
    ∃ e, band_Check.l0 K l i = some e ∧ (e = 0 → ∀ q : Int, i ≤ q → q < l.length → Cq l q) := by
  intro j
  induction j with
  | zero =>
    intro i K h0 hi hK
    obtain ⟨K, rfl⟩ : ∃ q, K = q + 1 + 1 + 1 + 1 := ⟨K - 4, by omega⟩
    have last : ∀ (b : Bool), b = true ∨ ∀ q : Int, i ≤ q → q < l.length → Cq l q → ∃ e, band_Check.j4 (K + 1) l i b = some e ∧ (e = 0 → ∀ q : Int, i ≤ q → q < l.length → Cq l q) := by
      intro b
      cases b
      · refine Or.inr fun q h1 h2 hq => ⟨0, ?_, fun _ q' h1' h2' => ?_⟩
        · simp only [band_Check.j4, Bool.false_eq_true, if_false]
          rw [w64 (x := i + 1) (by omega), if_neg (by omega)]
        · rw [show q' = q by omega]; exact hq
      · exact Or.inl rfl
    have bad : ∀ e : Int, e ≠ 0 → ∃ e', (some e : Option Int) = some e' ∧ (e' = 0 → ∀ q : Int, i ≤ q → q < l.length → Cq l q) := fun e he => ⟨e, rfl, fun h => absurd h he⟩
    simp only [band_Check.l0]
    rw [if_pos h0, if_pos (by omega)]
    by_cases c1 : (rd_T30 l i).f0 < 0
    · rw [if_pos c1]; simp only [band_Check.j2, if_true]; exact bad 1 (by omega)
    rw [if_neg c1]
    by_cases c2 : (rd_T30 l i).f0 > 100000000000
    · rw [if_pos c2]; simp only [band_Check.j2, if_true]; exact bad 1 (by omega)
    rw [if_neg c2]
    have tail : (i = 0 → (rd_T30 l i).f0 = 0) → (0 < i → (rd_T30 l (i - 1)).f0 < (rd_T30 l i).f0) → ∃ e, band_Check.j3 (K + 1 + 1) l i false (rd_T30 l i).f0 (rd_T30 l i).f1 (rd_T30 l i).f2 = some e ∧ (e = 0 → ∀ q : Int, i ≤ q → q < l.length → Cq l q) := by
      intro t1 t2
      simp only [band_Check.j3, Bool.false_eq_true, if_false]
      rw [rate_ok, rate_ok]
      simp only [Option.bind_some]
      by_cases r1 : 0 ≤ (rd_T30 l i).f1 ∧ (rd_T30 l i).f1 ≤ 10000
      · rw [if_pos (decide_eq_true r1)]
        by_cases r2 : 0 ≤ (rd_T30 l i).f2 ∧ (rd_T30 l i).f2 ≤ 10000
        · rw [decide_eq_true r2]
          have hq : Cq l i := ⟨by omega, by omega, t1, t2, r1.1, r1.2, r2.1, r2.2⟩
          rcases last (!true) with hx | hx
          · cases hx
          · exact hx i (by omega) (by omega) hq
        · rw [decide_eq_false r2]
          simp only [Bool.not_false, band_Check.j4, if_true]
          exact bad 50 (by omega)
      · rw [if_neg (by simpa using r1)]
        simp only [band_Check.j4, if_true]
        exact bad 50 (by omega)
    by_cases c3 : i = 0
    · rw [if_pos c3]
      by_cases c4 : (rd_T30 l i).f0 = 0
      · rw [show ((rd_T30 l i).f0 != 0) = false by simp [c4]]
        simp only [band_Check.j2, Bool.false_eq_true, if_false]
        rw [if_neg (by omega)]
        exact tail (fun _ => c4) (fun h => absurd h (by omega))
      · rw [show ((rd_T30 l i).f0 != 0) = true by simp [c4]]
        simp only [band_Check.j2, if_true]
        exact bad 1 (by omega)
    · rw [if_neg c3]
      simp only [band_Check.j2, Bool.false_eq_true, if_false]
      rw [if_pos (by omega), w64 (x := i - 1) (by omega), if_pos (by omega), if_pos (by omega)]
      by_cases c5 : (rd_T30 l i).f0 ≤ (rd_T30 l (i - 1)).f0
      · rw [decide_eq_true c5]
        simp only [band_Check.j3, if_true]
        exact bad 6 (by omega)
      · rw [decide_eq_false c5]
        exact tail (fun h => absurd h c3) (fun _ => by omega)
  | succ j ih =>
    intro i K h0 hi hK
    obtain ⟨K, rfl⟩ : ∃ q, K = q + 1 + 1 + 1 + 1 := ⟨K - 4, by omega⟩
    have bad : ∀ e : Int, e ≠ 0 → ∃ e', (some e : Option Int) = some e' ∧ (e' = 0 → ∀ q : Int, i ≤ q → q < l.length → Cq l q) := fun e he => ⟨e, rfl, fun h => absurd h he⟩
    simp only [band_Check.l0]
    rw [if_pos h0, if_pos (by omega)]
    by_cases c1 : (rd_T30 l i).f0 < 0
    · rw [if_pos c1]; simp only [band_Check.j2, if_true]; exact bad 1 (by omega)
    rw [if_neg c1]
    by_cases c2 : (rd_T30 l i).f0 > 100000000000
    · rw [if_pos c2]; simp only [band_Check.j2, if_true]; exact bad 1 (by omega)
    rw [if_neg c2]
    have tail : (i = 0 → (rd_T30 l i).f0 = 0) → (0 < i → (rd_T30 l (i - 1)).f0 < (rd_T30 l i).f0) → ∃ e, band_Check.j3 (K + 1 + 1) l i false (rd_T30 l i).f0 (rd_T30 l i).f1 (rd_T30 l i).f2 = some e ∧ (e = 0 → ∀ q : Int, i ≤ q → q < l.length → Cq l q) := by
      intro t1 t2
      simp only [band_Check.j3, Bool.false_eq_true, if_false]
      rw [rate_ok, rate_ok]
      simp only [Option.bind_some]
      by_cases r1 : 0 ≤ (rd_T30 l i).f1 ∧ (rd_T30 l i).f1 ≤ 10000
      · rw [if_pos (decide_eq_true r1)]
        by_cases r2 : 0 ≤ (rd_T30 l i).f2 ∧ (rd_T30 l i).f2 ≤ 10000
        · rw [decide_eq_true r2]
          have hq : Cq l i := ⟨by omega, by omega, t1, t2, r1.1, r1.2, r2.1, r2.2⟩
          simp only [Bool.not_true, band_Check.j4, Bool.false_eq_true, if_false]
          rw [w64 (x := i + 1) (by omega), if_pos (by omega)]
          obtain ⟨e, e1, e2⟩ := ih (i + 1) K (by omega) (by omega) (by omega)
          refine ⟨e, e1, fun he q h1 h2 => ?_⟩
          by_cases hqi : q = i
          · rw [hqi]; exact hq
          · exact e2 he q (by omega) h2
        · rw [decide_eq_false r2]
          simp only [Bool.not_false, band_Check.j4, if_true]
          exact bad 50 (by omega)
      · rw [if_neg (by simpa using r1)]
        simp only [band_Check.j4, if_true]
        exact bad 50 (by omega)
    by_cases c3 : i = 0
    · rw [if_pos c3]
      by_cases c4 : (rd_T30 l i).f0 = 0
      · rw [show ((rd_T30 l i).f0 != 0) = false by simp [c4]]
        simp only [band_Check.j2, Bool.false_eq_true, if_false]
        rw [if_neg (by omega)]
        exact tail (fun _ => c4) (fun h => absurd h (by omega))
      · rw [show ((rd_T30 l i).f0 != 0) = true by simp [c4]]
        simp only [band_Check.j2, if_true]
        exact bad 1 (by omega)
    · rw [if_neg c3]
      simp only [band_Check.j2, Bool.false_eq_true, if_false]
      rw [if_pos (by omega), w64 (x := i - 1) (by omega), if_pos (by omega), if_pos (by omega)]
      by_cases c5 : (rd_T30 l i).f0 ≤ (rd_T30 l (i - 1)).f0
      · rw [decide_eq_true c5]
        simp only [band_Check.j3, if_true]
        exact bad 6 (by omega)
      · rw [decide_eq_false c5]
        exact tail (fun h => absurd h c3) (fun _ => by omega)
/-- Check answers; and where it finds nothing, the bands are as they may be. -/
theorem check_ok (l : List S30) {K : Nat} (hK : 60 ≤ K) : ∃ e, band_Check.f K l = some e ∧ (e = 0 → BL l) := by
  obtain ⟨K, rfl⟩ : ∃ q, K = q + 1 := ⟨K - 1, by omega⟩
  unfold band_Check.f
  by_cases h0 : (l.length : Int) = 0
  · rw [if_pos h0]
    exact ⟨2, by simp [band_Check.j0], fun h => absurd h (by omega)⟩
  · rw [if_neg h0]
    by_cases h8 : (l.length : Int) > 8
    · rw [decide_eq_true h8]
      exact ⟨2, by simp [band_Check.j0], fun h => absurd h (by omega)⟩
    · rw [decide_eq_false h8]
      simp only [band_Check.j0, Bool.false_eq_true, if_false]
      obtain ⟨e, e1, e2⟩ := check_l0 (l := l) (by omega) (l.length - 1) 0 K (by omega) (by omega) (by omega)
      exact ⟨e, e1, fun he => ⟨by omega, by omega, e2 he⟩⟩
theorem check_l0_BL {l : List S30} (hB : BL l) : ∀ (j : Nat) (i : Int) (K : Nat), 0 ≤ i → i + j + 1 = l.length → 4 * j + 10 ≤ K → band_Check.l0 K l i = some 0 := by
  have h8 := hB.eight
  intro j
  induction j with
  | zero =>
    intro i K h0 hi hK
    obtain ⟨K, rfl⟩ : ∃ q, K = q + 1 + 1 + 1 + 1 := ⟨K - 4, by omega⟩
    obtain ⟨c1, c2, c3, c4, c5, c6, c7, c8⟩ := hB.all i h0 (by omega)
    have fin : band_Check.j3 (K + 1 + 1) l i false (rd_T30 l i).f0 (rd_T30 l i).f1 (rd_T30 l i).f2 = some 0 := by
      simp only [band_Check.j3, Bool.false_eq_true, if_false]
      rw [rate_ok, rate_ok]
      simp only [Option.bind_some]
      rw [if_pos (decide_eq_true ⟨c5, c6⟩), decide_eq_true (⟨c7, c8⟩ : 0 ≤ (rd_T30 l i).f2 ∧ (rd_T30 l i).f2 ≤ 10000)]
      simp only [Bool.not_true, band_Check.j4, Bool.false_eq_true, if_false]
      rw [w64 (x := i + 1) (by omega), if_neg (by omega)]
    simp only [band_Check.l0]
    rw [if_pos h0, if_pos (by omega), if_neg (by omega), if_neg (by omega)]
    by_cases z : i = 0
    · rw [if_pos z, show ((rd_T30 l i).f0 != 0) = false by simp [c3 z]]
      simp only [band_Check.j2, Bool.false_eq_true, if_false]
      rw [if_neg (by omega)]
      exact fin
    · have c4' := c4 (by omega)
      rw [if_neg z]
      simp only [band_Check.j2, Bool.false_eq_true, if_false]
      rw [if_pos (by omega), w64 (x := i - 1) (by omega), if_pos (by omega), if_pos (by omega), decide_eq_false (by omega)]
      exact fin
  | succ j ih =>
    intro i K h0 hi hK
    obtain ⟨K, rfl⟩ : ∃ q, K = q + 1 + 1 + 1 + 1 := ⟨K - 4, by omega⟩
    obtain ⟨c1, c2, c3, c4, c5, c6, c7, c8⟩ := hB.all i h0 (by omega)
    have fin : band_Check.j3 (K + 1 + 1) l i false (rd_T30 l i).f0 (rd_T30 l i).f1 (rd_T30 l i).f2 = some 0 := by
      simp only [band_Check.j3, Bool.false_eq_true, if_false]
      rw [rate_ok, rate_ok]
      simp only [Option.bind_some]
      rw [if_pos (decide_eq_true ⟨c5, c6⟩), decide_eq_true (⟨c7, c8⟩ : 0 ≤ (rd_T30 l i).f2 ∧ (rd_T30 l i).f2 ≤ 10000)]
      simp only [Bool.not_true, band_Check.j4, Bool.false_eq_true, if_false]
      rw [w64 (x := i + 1) (by omega), if_pos (by omega)]
      exact ih (i + 1) K (by omega) (by omega) (by omega)
    simp only [band_Check.l0]
    rw [if_pos h0, if_pos (by omega), if_neg (by omega), if_neg (by omega)]
    by_cases z : i = 0
    · rw [if_pos z, show ((rd_T30 l i).f0 != 0) = false by simp [c3 z]]
      simp only [band_Check.j2, Bool.false_eq_true, if_false]
      rw [if_neg (by omega)]
      exact fin
    · have c4' := c4 (by omega)
      rw [if_neg z]
      simp only [band_Check.j2, Bool.false_eq_true, if_false]
      rw [if_pos (by omega), w64 (x := i - 1) (by omega), if_pos (by omega), if_pos (by omega), decide_eq_false (by omega)]
      exact fin
theorem check_BL {l : List S30} (hB : BL l) {K : Nat} (hK : 60 ≤ K) : band_Check.f K l = some 0 := by
  have h8 := hB.eight
  have h1 := hB.one
  obtain ⟨K, rfl⟩ : ∃ q, K = q + 1 := ⟨K - 1, by omega⟩
  unfold band_Check.f
  rw [if_neg (by omega), decide_eq_false (by omega)]
  simp only [band_Check.j0, Bool.false_eq_true, if_false]
  exact check_l0_BL hB (l.length - 1) 0 K (by omega) (by omega) (by omega)
/-- How much of an amount lies ahead of a band; and how much in it. -/
def T (l : List S30) (x i : Int) : Int := if i < l.length then mn x (rd_T30 l i).f0 else x
def W (l : List S30) (x i : Int) : Int := (if i + 1 < l.length then mn x (rd_T30 l (i + 1)).f0 else x) - (rd_T30 l i).f0
/-- What an amount comes to from a band on, by the rates that are told. -/
def V (sel : S30 → Int) (l : List S30) (x : Int) : Nat → Int → Int
  | 0, _ => 0
  | j + 1, i => if i = l.length ∨ x ≤ (rd_T30 l i).f0 then 0 else W l x i * sel (rd_T30 l i) + V sel l x j (i + 1)
theorem V_succ (sel : S30 → Int) (l : List S30) (x : Int) (j : Nat) (i : Int) : V sel l x (j + 1) i = if i = l.length ∨ x ≤ (rd_T30 l i).f0 then 0 else W l x i * sel (rd_T30 l i) + V sel l x j (i + 1) := rfl
theorem T_le (l : List S30) (x i : Int) : T l x i ≤ x := by
  unfold T
  split
  · rw [mn_min]; split <;> omega
  · omega
theorem T_0 {l : List S30} {x : Int} (hB : BL l) (hx : 0 ≤ x ∧ x ≤ 100000000000) : T l x 0 = 0 := by
  have h1 := hB.one
  have h0 := (hB.all 0 (by omega) (by omega)).2.2.1 rfl
  unfold T
  rw [if_pos (by omega), h0, mn_min]
  split <;> omega
theorem W_bd {l : List S30} {x i : Int} (hB : BL l) (hx : 0 ≤ x ∧ x ≤ 100000000000) (h0 : 0 ≤ i) (hi : i < l.length) (hl : (rd_T30 l i).f0 < x) : W l x i = T l x (i + 1) - T l x i ∧ 0 ≤ W l x i ∧ W l x i ≤ 100000000000 := by
  obtain ⟨c1, c2, _⟩ := hB.all i h0 hi
  have hT : T l x i = (rd_T30 l i).f0 := by unfold T; rw [if_pos hi, mn_min, if_neg (by omega)]
  rw [hT]
  unfold W T
  by_cases hn : i + 1 < l.length
  · obtain ⟨d1, d2, _, d4, _⟩ := hB.all (i + 1) (by omega) hn
    have d4' := d4 (by omega)
    rw [show i + 1 - 1 = i by omega] at d4'
    rw [if_pos hn, mn_min]
    split <;> omega
  · rw [if_neg hn]
    omega
theorem prod_bd {w r : Int} (hw : 0 ≤ w) (h0 : 0 ≤ r) (h1 : r ≤ 10000) : 0 ≤ w * r ∧ w * r ≤ 10000 * w := by
  refine ⟨Int.mul_nonneg hw h0, ?_⟩
  have := Int.mul_le_mul_of_nonneg_left h1 hw
  omega
theorem right1 {x : Int} (hx : -100000000000 ≤ x ∧ x ≤ 100000000000) {K : Nat} (hK : 2 ≤ K) : money_Right.f K [x] = some true := by
  obtain ⟨K, rfl⟩ : ∃ q, K = q + 1 + 1 := ⟨K - 2, by omega⟩
  unfold money_Right.f
  rw [show (([x] : List Int).length : Int) = 1 from rfl]
  simp only [money_Right.l0]
  rw [show rd [x] 0 = x from rfl, if_pos (by omega), if_pos (by omega), if_pos (by simp), if_neg (by omega), if_neg (by omega), w64 (x := 0 + 1) (by omega), if_neg (by omega)]
theorem part_ok {w r : Int} (hw : 0 ≤ w ∧ w ≤ 100000000000) (hr : 0 ≤ r ∧ r ≤ 10000) {K : Nat} (hK : 2 ≤ K) : frac_Part.f K w r = some (w * r, 0) := by
  have hp := prod_bd hw.1 hr.1 hr.2
  unfold frac_Part.f
  rw [right1 (by omega) hK, rate_ok]
  simp only [Option.bind_some, if_true]
  rw [if_pos (decide_eq_true hr), w64 (by omega)]
theorem width_ok {l : List S30} {x i : Int} (hB : BL l) (hx : 0 ≤ x ∧ x ≤ 100000000000) (h0 : 0 ≤ i) (hi : i < l.length) (hl : (rd_T30 l i).f0 < x) : band_width.f x i l = some (W l x i) := by
  have h8 := hB.eight
  obtain ⟨w1, w2, w3⟩ := W_bd hB hx h0 hi hl
  have hm : ∀ y : Int, 0 ≤ y → mx 0 y = y := by intro y hy; unfold mx; split <;> omega
  unfold band_width.f
  rw [w64 (x := i + 1) (by omega)]
  unfold W at w2 w3 ⊢
  by_cases hn : i + 1 < l.length
  · rw [if_pos hn] at w2 w3 ⊢
    rw [if_pos hn, if_pos (by omega), if_pos h0, if_pos hi, w64 (by omega), hm _ w2]
  · rw [if_neg hn] at w2 w3 ⊢
    rw [if_neg hn, if_pos h0, if_pos hi, w64 (by omega), hm _ w2]
theorem each_R_l0 {l : List S30} {x : Int} (hB : BL l) (hx : 0 ≤ x ∧ x ≤ 100000000000) : ∀ (j : Nat) (i A : Int) (K : Nat), 0 ≤ i → i + j = l.length → 0 ≤ A → A ≤ 10000 * T l x i → 2 * j + 70 ≤ K →
    band_each_R.l0 K x l A i = some (A + V S30.f1 l x (j + 1) i, 0) ∧ 0 ≤ A + V S30.f1 l x (j + 1) i ∧ A + V S30.f1 l x (j + 1) i ≤ 10000 * x := by
  intro j
  induction j with
  | zero =>
    intro i A K h0 hi hA hA2 hK
    obtain ⟨K, rfl⟩ : ∃ q, K = q + 1 + 1 := ⟨K - 2, by omega⟩
    have hT : T l x i = x := by unfold T; rw [if_neg (by omega)]
    rw [V, if_pos (Or.inl (by omega))]
    simp only [band_each_R.l0]
    rw [if_pos (by omega)]
    simp only [band_each_R.j1, if_true]
    exact ⟨by rw [Int.add_zero], by omega, by omega⟩
  | succ j ih =>
    intro i A K h0 hi hA hA2 hK
    obtain ⟨K, rfl⟩ : ∃ q, K = q + 1 + 1 := ⟨K - 2, by omega⟩
    rw [V]
    simp only [band_each_R.l0]
    rw [if_neg (by omega), if_pos h0, if_pos (by omega)]
    by_cases hle : x ≤ (rd_T30 l i).f0
    · have hT : T l x i = x := by unfold T; rw [if_pos (by omega), mn_min, if_pos hle]
      rw [if_pos (Or.inr hle), decide_eq_true hle]
      simp only [band_each_R.j1, if_true]
      exact ⟨by rw [Int.add_zero], by omega, by omega⟩
    · obtain ⟨w1, w2, w3⟩ := W_bd hB hx h0 (by omega) (by omega)
      obtain ⟨_, _, _, _, q1, q2, q3, q4⟩ := hB.all i h0 (by omega)
      have h8 := hB.eight
      have hp := prod_bd (w := W l x i) (r := (rd_T30 l i).f1) w2 (by omega) (by omega)
      have hTx := T_le l x (i + 1)
      rw [if_neg (by omega), decide_eq_false hle]
      simp only [band_each_R.j1, Bool.false_eq_true, if_false]
      rw [width_ok hB hx h0 (by omega) (by omega)]
      simp only [Option.bind_some]
      rw [if_pos h0, if_pos (by omega), show band_Exact_1.f (rd_T30 l i).f0 (rd_T30 l i).f1 (rd_T30 l i).f2 = some (rd_T30 l i).f1 from rfl]
      simp only [Option.bind_some]
      rw [part_ok (by omega) (by omega) (by omega)]
      simp only [Option.bind_some, if_true]
      rw [w64 (x := A + W l x i * (rd_T30 l i).f1) (by omega), w64 (x := i + 1) (by omega)]
      have := ih (i + 1) (A + W l x i * (rd_T30 l i).f1) K (by omega) (by omega) (by omega) (by omega) (by omega)
      rw [Int.add_assoc] at this
      exact this
theorem each_R_ok {l : List S30} {x : Int} (hB : BL l) (hx : 0 ≤ x ∧ x ≤ 100000000000) {K : Nat} (hK : 200 ≤ K) :
    band_each_R.f K x l = some (V S30.f1 l x (l.length + 1) 0, 0) ∧ 0 ≤ V S30.f1 l x (l.length + 1) 0 ∧ V S30.f1 l x (l.length + 1) 0 ≤ 10000 * x := by
  have h8 := hB.eight
  have hT := T_0 hB hx
  have h := each_R_l0 hB hx l.length 0 0 K (by omega) (by omega) (by omega) (by omega) (by omega)
  rw [Int.zero_add] at h
  refine ⟨?_, h.2⟩
  unfold band_each_R.f
  rw [check_BL hB (by omega)]
  simp only [Option.bind_some, if_true]
  rw [right1 (by omega) (by omega)]
  simp only [Option.bind_some, if_true]
  exact h.1
theorem each_E_l0 {l : List S30} {x : Int} (hB : BL l) (hx : 0 ≤ x ∧ x ≤ 100000000000) : ∀ (j : Nat) (i A : Int) (K : Nat), 0 ≤ i → i + j = l.length → 0 ≤ A → A ≤ 10000 * T l x i → 2 * j + 70 ≤ K →
    band_each_E.l0 K x l A i = some (A + V S30.f2 l x (j + 1) i, 0) ∧ 0 ≤ A + V S30.f2 l x (j + 1) i ∧ A + V S30.f2 l x (j + 1) i ≤ 10000 * x := by
  intro j
  induction j with
  | zero =>
    intro i A K h0 hi hA hA2 hK
    obtain ⟨K, rfl⟩ : ∃ q, K = q + 1 + 1 := ⟨K - 2, by omega⟩
    have hT : T l x i = x := by unfold T; rw [if_neg (by omega)]
    rw [V, if_pos (Or.inl (by omega))]
    simp only [band_each_E.l0]
    rw [if_pos (by omega)]
    simp only [band_each_E.j1, if_true]
    exact ⟨by rw [Int.add_zero], by omega, by omega⟩
  | succ j ih =>
    intro i A K h0 hi hA hA2 hK
    obtain ⟨K, rfl⟩ : ∃ q, K = q + 1 + 1 := ⟨K - 2, by omega⟩
    rw [V]
    simp only [band_each_E.l0]
    rw [if_neg (by omega), if_pos h0, if_pos (by omega)]
    by_cases hle : x ≤ (rd_T30 l i).f0
    · have hT : T l x i = x := by unfold T; rw [if_pos (by omega), mn_min, if_pos hle]
      rw [if_pos (Or.inr hle), decide_eq_true hle]
      simp only [band_each_E.j1, if_true]
      exact ⟨by rw [Int.add_zero], by omega, by omega⟩
    · obtain ⟨w1, w2, w3⟩ := W_bd hB hx h0 (by omega) (by omega)
      obtain ⟨_, _, _, _, q1, q2, q3, q4⟩ := hB.all i h0 (by omega)
      have h8 := hB.eight
      have hp := prod_bd (w := W l x i) (r := (rd_T30 l i).f2) w2 (by omega) (by omega)
      have hTx := T_le l x (i + 1)
      rw [if_neg (by omega), decide_eq_false hle]
      simp only [band_each_E.j1, Bool.false_eq_true, if_false]
      rw [width_ok hB hx h0 (by omega) (by omega)]
      simp only [Option.bind_some]
      rw [if_pos h0, if_pos (by omega), show band_Employer_1.f (rd_T30 l i).f0 (rd_T30 l i).f1 (rd_T30 l i).f2 = some (rd_T30 l i).f2 from rfl]
      simp only [Option.bind_some]
      rw [part_ok (by omega) (by omega) (by omega)]
      simp only [Option.bind_some, if_true]
      rw [w64 (x := A + W l x i * (rd_T30 l i).f2) (by omega), w64 (x := i + 1) (by omega)]
      have := ih (i + 1) (A + W l x i * (rd_T30 l i).f2) K (by omega) (by omega) (by omega) (by omega) (by omega)
      rw [Int.add_assoc] at this
      exact this
theorem each_E_ok {l : List S30} {x : Int} (hB : BL l) (hx : 0 ≤ x ∧ x ≤ 100000000000) {K : Nat} (hK : 200 ≤ K) :
    band_each_E.f K x l = some (V S30.f2 l x (l.length + 1) 0, 0) ∧ 0 ≤ V S30.f2 l x (l.length + 1) 0 ∧ V S30.f2 l x (l.length + 1) 0 ≤ 10000 * x := by
  have h8 := hB.eight
  have hT := T_0 hB hx
  have h := each_E_l0 hB hx l.length 0 0 K (by omega) (by omega) (by omega) (by omega) (by omega)
  rw [Int.zero_add] at h
  refine ⟨?_, h.2⟩
  unfold band_each_E.f
  rw [check_BL hB (by omega)]
  simp only [Option.bind_some, if_true]
  rw [right1 (by omega) (by omega)]
  simp only [Option.bind_some, if_true]
  exact h.1
theorem banded_l0 {l : List S30} {x : Int} (hB : BL l) (hx : 0 ≤ x ∧ x ≤ 100000000000) : ∀ (j : Nat) (i A B : Int) (K : Nat), 0 ≤ i → i + j = l.length → 0 ≤ A → A ≤ 10000 * T l x i → 0 ≤ B → B ≤ 10000 * T l x i → 2 * j + 70 ≤ K →
    pair_Banded.l0 K x l (A, B) i = some ((A + V S30.f1 l x (j + 1) i, B + V S30.f2 l x (j + 1) i), 0) := by
  intro j
  induction j with
  | zero =>
    intro i A B K h0 hi hA hA2 hB1 hB2 hK
    obtain ⟨K, rfl⟩ : ∃ q, K = q + 1 + 1 := ⟨K - 2, by omega⟩
    rw [V_succ S30.f1 l x 0 i, V_succ S30.f2 l x 0 i, if_pos (Or.inl (by omega)), if_pos (Or.inl (by omega))]
    simp only [pair_Banded.l0]
    rw [if_pos (by omega)]
    simp only [pair_Banded.j1, if_true]
    rw [Int.add_zero, Int.add_zero]
  | succ j ih =>
    intro i A B K h0 hi hA hA2 hB1 hB2 hK
    obtain ⟨K, rfl⟩ : ∃ q, K = q + 1 + 1 := ⟨K - 2, by omega⟩
    have h8 := hB.eight
    rw [V_succ S30.f1 l x (j + 1) i, V_succ S30.f2 l x (j + 1) i]
    simp only [pair_Banded.l0]
    rw [if_neg (by omega), if_pos h0, if_pos (by omega)]
    by_cases hle : x ≤ (rd_T30 l i).f0
    · rw [if_pos (Or.inr hle), if_pos (Or.inr hle), decide_eq_true hle]
      simp only [pair_Banded.j1, if_true]
      rw [Int.add_zero, Int.add_zero]
    · obtain ⟨w1, w2, w3⟩ := W_bd hB hx h0 (by omega) (by omega)
      obtain ⟨_, _, _, _, q1, q2, q3, q4⟩ := hB.all i h0 (by omega)
      have hp := prod_bd (w := W l x i) (r := (rd_T30 l i).f1) w2 (by omega) (by omega)
      have hp2 := prod_bd (w := W l x i) (r := (rd_T30 l i).f2) w2 (by omega) (by omega)
      have hTx := T_le l x (i + 1)
      have hTi := T_le l x i
      have f0 : Flt.fok (W l x i) = true := decide_eq_true ⟨w2, by omega⟩
      have f1 : Flt.fok (rd_T30 l i).f1 = true := decide_eq_true ⟨q1, by omega⟩
      have f2 : Flt.fok (rd_T30 l i).f2 = true := decide_eq_true ⟨q3, by omega⟩
      have f3 : Flt.fmul (W l x i) (rd_T30 l i).f1 (rd_T30 l i).f2 = true := decide_eq_true ⟨⟨w2, by omega⟩, ⟨q1, by omega⟩, ⟨q3, by omega⟩, by omega, by omega⟩
      have f4 : Flt.fadd A B (W l x i * (rd_T30 l i).f1) (W l x i * (rd_T30 l i).f2) = true := decide_eq_true ⟨⟨hA, by omega⟩, ⟨hB1, by omega⟩, ⟨hp.1, by omega⟩, ⟨hp2.1, by omega⟩, by omega, by omega⟩
      have hr : pair_rates.f (rd_T30 l i).f0 (rd_T30 l i).f1 (rd_T30 l i).f2 = some ((rd_T30 l i).f1, (rd_T30 l i).f2) := by unfold pair_rates.f; rw [if_pos f1, if_pos f2]
      have go := ih (i + 1) (A + W l x i * (rd_T30 l i).f1) (B + W l x i * (rd_T30 l i).f2) K (by omega) (by omega) (by omega) (by omega) (by omega) (by omega) (by omega)
      rw [Int.add_assoc, Int.add_assoc] at go
      rw [if_neg (by omega), if_neg (by omega), decide_eq_false hle]
      simp only [pair_Banded.j1, Bool.false_eq_true, if_false]
      rw [w64 (x := i + 1) (by omega)]
      by_cases hn : i + 1 < l.length
      · have hW : wrap64 (mn x (rd_T30 l (i + 1)).f0 - (rd_T30 l i).f0) = W l x i := by
          have e : W l x i = mn x (rd_T30 l (i + 1)).f0 - (rd_T30 l i).f0 := by unfold W; rw [if_pos hn]
          rw [w64 (by omega), e]
        rw [if_pos hn, if_pos (by omega), if_pos h0, if_pos (by omega), hW, if_pos f0, hr]
        simp only [Option.bind_some]
        rw [if_pos f3, if_pos f4]
        exact go
      · have hW : wrap64 (x - (rd_T30 l i).f0) = W l x i := by
          have e : W l x i = x - (rd_T30 l i).f0 := by unfold W; rw [if_neg hn]
          rw [w64 (by omega), e]
        rw [if_neg hn, if_pos h0, if_pos (by omega), hW, if_pos f0, hr]
        simp only [Option.bind_some]
        rw [if_pos f3, if_pos f4]
        exact go
theorem banded_ok {l : List S30} {x : Int} (hB : BL l) (hx : 0 ≤ x ∧ x ≤ 100000000000) {K : Nat} (hK : 200 ≤ K) :
    pair_Banded.f K x l = some ((V S30.f1 l x (l.length + 1) 0, V S30.f2 l x (l.length + 1) 0), 0) := by
  have h8 := hB.eight
  have hT := T_0 hB hx
  have h := banded_l0 hB hx l.length 0 0 0 K (by omega) (by omega) (by omega) (by omega) (by omega) (by omega) (by omega)
  rw [Int.zero_add, Int.zero_add] at h
  unfold pair_Banded.f
  rw [check_BL hB (by omega)]
  simp only [Option.bind_some, if_true]
  rw [right1 (by omega) (by omega)]
  simp only [Option.bind_some, if_true]
  exact h
end Go.Proofs.Ytfiomckebicphaa.PB
