/- Plain facts on the functions of the package frac: floor, Round, Right, Part, Take, Scale, as far as the laws of stipendlaw02 and stipendlaw14 need them. -/
import Derived.Test.YtfiomckebicphaaB0
import Derived.Test.YtfiomckebicphaaBfracMode
import Derived.Test.YtfiomckebicphaaBfracfloor
import Derived.Test.YtfiomckebicphaaBfracnearer
import Derived.Test.YtfiomckebicphaaBfracRound
namespace Go.Proofs.Ytfiomckebicphaa.PF
open Go.RowKit Go.Proofs.Ytfiomckebicphaa.B Go.Proofs.YtfiomckebicphaaW.PrintWords Go.Proofs.YtfiomckebicphaaW.PrintLast

theorem wf64 {x : Int} (h : (Lit.int .i64 x).wf = true) : -9223372036854775808 ≤ x ∧ x ≤ 9223372036854775807 := by
  simp [Lit.wf, IntKind.min, IntKind.max, IntKind.signed, IntKind.bits] at h
  omega
theorem w64 {x : Int} (h : -9223372036854775808 ≤ x ∧ x ≤ 9223372036854775807) : wrap64 x = x := by
  unfold wrap64
  omega
theorem div_bounds {n d : Int} (hd : 0 < d) : (0 ≤ n → 0 ≤ n / d ∧ n / d ≤ n) ∧ (n < 0 → n ≤ n / d ∧ n / d < 0) := by
  constructor
  · intro h
    exact ⟨Int.ediv_nonneg h (by omega), Int.ediv_le_self _ h⟩
  · intro h
    refine ⟨?_, Int.ediv_neg_of_neg_of_pos h hd⟩
    have h1 := Int.emod_nonneg n (show d ≠ 0 by omega)
    have h2 := Int.emod_lt_of_pos n hd
    have h3 := Int.mul_ediv_add_emod n d
    have h4 : n / d < 0 := Int.ediv_neg_of_neg_of_pos h hd
    rcases Int.lt_or_le (n / d) n with h5 | h5
    · have h6 : d * (n / d) ≤ 1 * (n / d) := Int.mul_le_mul_of_nonpos_right (by omega) (by omega)
      have h7 : n = d * (n / d) + n % d := h3.symm
      rcases Int.lt_or_le 1 d with h8 | h8
      · have h9 : d * (n / d) ≤ 2 * (n / d) := Int.mul_le_mul_of_nonpos_right (by omega) (by omega)
        have : d * (n / d) - (n / d) ≤ n / d := by omega
        have h10 : (d - 1) * (n / d) ≤ (d - 1) * (-1) := Int.mul_le_mul_of_nonneg_left (by omega) (by omega)
        rw [Int.sub_mul] at h10
        omega
      · obtain rfl : d = 1 := by omega
        simp at h5
    · exact h5
theorem floor_ok {n d : Int} (hn : -9223372036854775808 ≤ n ∧ n ≤ 9223372036854775807) (hd : 0 < d) (hd2 : d ≤ 9223372036854775807) :
    frac_floor.f n d = some (n / d, n % d) := by
  have h1 := Int.emod_nonneg n (show d ≠ 0 by omega)
  have h2 := Int.emod_lt_of_pos n hd
  have hb := div_bounds (n := n) hd
  unfold frac_floor.f
  rw [if_neg (by omega)]
  by_cases hc : 0 ≤ n ∨ d ∣ n
  · have ht : Int.tmod n d = n % d := by rw [Int.tmod_eq_emod, if_pos hc]; omega
    have hq : Int.tdiv n d = n / d := by rw [Int.tdiv_eq_ediv, if_pos hc]; omega
    rw [ht, hq, if_neg (by omega), w64 (by omega)]
  · have hnd : ¬ n % d = 0 := fun h => hc (Or.inr (Int.dvd_of_emod_eq_zero h))
    have ht : Int.tmod n d = n % d - d := by rw [Int.tmod_eq_emod, if_neg hc]; omega
    have hq : Int.tdiv n d = n / d + 1 := by rw [Int.tdiv_eq_ediv, if_neg hc, Int.sign_eq_one_of_pos hd]
    rw [ht, hq, if_pos (by omega), w64 (x := n / d + 1) (by omega), w64 (by omega), w64 (by omega)]
    congr 2 <;> omega
theorem tmod_two (q : Int) : ((Int.tmod q 2) != 0) = decide (q % 2 = 1) := by
  rw [Bool.eq_iff_iff]
  simp only [bne_iff_ne, ne_eq, decide_eq_true_eq]
  rw [Int.tmod_eq_emod]
  split
  · omega
  · have : ((2 : Int).natAbs : Int) = 2 := rfl
    omega
/-- A quotient, rounded: the floor, or one more; when, tells its way. -/
theorem round_ok {n d m : Int} (hn : -9223372036854775808 ≤ n ∧ n ≤ 9223372036854775807) (hd : 0 < d) (hd2 : d ≤ 9223372036854775807) (hm : 1 ≤ m ∧ m ≤ 6) (k : Nat) :
    ∃ u, frac_Round.f (k + 1) n d m = some (n / d + u, 0) ∧ (u = 0 ∨ u = 1) ∧ (n % d = 0 → u = 0) ∧ (0 < n % d →
      (m = 1 → u = 0) ∧ (m = 2 → u = 1) ∧ (m = 3 → (u = 1 ↔ n / d < 0)) ∧ (m = 4 → (u = 1 ↔ d < 2 * (n % d) ∨ 2 * (n % d) = d ∧ 0 ≤ n / d)) ∧
      (m = 5 → (u = 1 ↔ d < 2 * (n % d) ∨ 2 * (n % d) = d ∧ (n / d) % 2 = 1)) ∧ (m = 6 → (u = 1 ↔ d < 2 * (n % d) ∨ 2 * (n % d) = d ∧ n / d < 0))) := by
  have h1 := Int.emod_nonneg n (show d ≠ 0 by omega)
  have h2 := Int.emod_lt_of_pos n hd
  have hb := div_bounds (n := n) hd
  have hf := floor_ok hn hd hd2
  have h3 := Int.mul_ediv_add_emod n d
  have hmode : frac_Mode.f m = some true := by unfold frac_Mode.f; rw [if_pos (by omega)]; simp; omega
  unfold frac_Round.f
  rw [if_neg (by omega), hmode]
  simp only [Option.bind_some, frac_Round.j0, Bool.not_true, Bool.false_eq_true, if_false, hf]
  generalize n / d = q at *
  generalize n % d = r at *
  by_cases hr : r > 0
  · rw [if_pos hr]
    have hq1 : q < 9223372036854775807 := by
      rcases Int.lt_or_le n 0 with h | h
      · have := (hb.2 h).2; omega
      · have := (hb.1 h).2
        rcases Int.lt_or_le q 9223372036854775807 with h' | h'
        · exact h'
        · obtain rfl : q = 9223372036854775807 := by omega
          omega
    have e1 : wrap64 (d - r) = d - r := w64 (by omega)
    have e2 : wrap64 (q + 1) = q + 1 := w64 (by omega)
    have fin : ∀ (b : Bool), frac_nearer.f q r d m = some b → (∃ u, (frac_nearer.f q r d m).bind (fun t104 => if t104 = true then some (wrap64 (q + 1), (0 : Int)) else some (q, 0)) = some (q + u, 0) ∧ (u = 0 ∨ u = 1) ∧ (u = 1 ↔ b = true)) := by
      intro b hb
      rw [hb]
      cases b
      · exact ⟨0, by simp, Or.inl rfl, by simp⟩
      · exact ⟨1, by simp [e2], Or.inr rfl, by simp⟩
    have hnear : ∃ b, frac_nearer.f q r d m = some b ∧ ((m = 1 → b = false) ∧ (m = 2 → b = true) ∧ (m = 3 → (b = true ↔ q < 0)) ∧ (m = 4 → (b = true ↔ d < 2 * r ∨ 2 * r = d ∧ 0 ≤ q)) ∧
      (m = 5 → (b = true ↔ d < 2 * r ∨ 2 * r = d ∧ q % 2 = 1)) ∧ (m = 6 → (b = true ↔ d < 2 * r ∨ 2 * r = d ∧ q < 0))) := by
      unfold frac_nearer.f
      rw [e1, tmod_two]
      obtain rfl | rfl | rfl | rfl | rfl | rfl : m = 1 ∨ m = 2 ∨ m = 3 ∨ m = 4 ∨ m = 5 ∨ m = 6 := by omega
      · exact ⟨false, by simp, by simp⟩
      · exact ⟨true, by simp [hr], by simp⟩
      · exact ⟨decide (q < 0), by simp [hr], by simp⟩
      · by_cases he : r = d - r
        · exact ⟨decide (q ≥ 0), by simp [← he], by simp; omega⟩
        · exact ⟨decide (r > d - r), by simp [he], by simp; omega⟩
      · by_cases he : r = d - r
        · exact ⟨decide (q % 2 = 1), by simp [← he], by simp; omega⟩
        · exact ⟨decide (r > d - r), by simp [he], by simp; omega⟩
      · by_cases he : r = d - r
        · exact ⟨decide (q < 0), by simp [← he], by simp; omega⟩
        · exact ⟨decide (r > d - r), by simp [he], by simp; omega⟩
    obtain ⟨b, hb1, hb2⟩ := hnear
    obtain ⟨u, hu1, hu2, hu3⟩ := fin b hb1
    refine ⟨u, hu1, hu2, by omega, fun _ => ?_⟩
    cases b
    · simp at hu3 hb2
      refine ⟨by omega, by omega, ?_, ?_, ?_, ?_⟩ <;> (intro hm'; simp [hm'] at hb2; omega)
    · simp at hu3 hb2
      refine ⟨by omega, by omega, ?_, ?_, ?_, ?_⟩ <;> (intro hm'; simp [hm'] at hb2; omega)
  · rw [if_neg hr]
    exact ⟨0, by simp, Or.inl rfl, fun _ => rfl, fun h => absurd h hr⟩
theorem round_bad {n d m : Int} (h : d ≤ 0 ∨ m < 1 ∨ 6 < m) (k : Nat) : frac_Round.f (k + 1) n d m = some (0, 1) := by
  unfold frac_Round.f
  by_cases hd : d ≤ 0
  · rw [if_pos hd]
    simp [frac_Round.j0]
  · rw [if_neg hd]
    have hmode : frac_Mode.f m = some false := by
      unfold frac_Mode.f
      by_cases h1 : m ≥ 1
      · rw [if_pos h1]; simp; omega
      · rw [if_neg h1]
    rw [hmode]
    simp [frac_Round.j0]
end Go.Proofs.Ytfiomckebicphaa.PF
