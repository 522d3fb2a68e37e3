/- Plain facts on the functions of the packages money and frac at one amount: Right, Part, Take, Coins, Scale. -/
import Derived.Test.YtfiomckebicphaaX0
import Derived.Test.YtfiomckebicphaaXfracRound
import Derived.Test.YtfiomckebicphaaXmoneyRight
import Derived.Test.YtfiomckebicphaaXfracRight
import Derived.Test.YtfiomckebicphaaXfracCoins
import Derived.Test.YtfiomckebicphaaXfracRate
import Derived.Test.YtfiomckebicphaaXfracPart
import Derived.Test.YtfiomckebicphaaXfracTake
import Derived.Test.YtfiomckebicphaaMFrac
namespace Go.Proofs.Ytfiomckebicphaa.Pure
open Go.RowKit Go.Proofs.Ytfiomckebicphaa.X Go.Proofs.YtfiomckebicphaaW.PrintWords Go.Proofs.YtfiomckebicphaaW.PrintLast

def okM (x : Int) : Prop := -100000000000 ≤ x ∧ x ≤ 100000000000
instance (x : Int) : Decidable (okM x) := by unfold okM; exact inferInstance
theorem right_nil (xs : List Int) (n : Int) (i : Int) (h : ¬ i < n) (k : Nat) : money_Right.l0 (k + 1) xs n i = some true := by
  simp only [money_Right.l0]
  rw [if_neg h]
theorem right_run (xs : List Int) (hl : xs.length ≤ 1000) : ∀ (d : Nat) (i k : Nat), i + d = xs.length → d < k →
    money_Right.l0 k xs (xs.length : Int) (i : Int) = some (decide (∀ x ∈ xs.drop i, okM x)) := by
  intro d
  induction d with
  | zero =>
    intro i k hi hk
    obtain ⟨k, rfl⟩ : ∃ m, k = m + 1 := ⟨k - 1, by omega⟩
    rw [right_nil _ _ _ (by omega), List.drop_of_length_le (by omega)]
    simp
  | succ d ih =>
    intro i k hi hk
    obtain ⟨k, rfl⟩ : ∃ m, k = m + 1 := ⟨k - 1, by omega⟩
    have hlt : i < xs.length := by omega
    have hrd : rd xs (i : Int) = xs[i] := by simp [rd, hlt]
    have hdr : xs.drop i = xs[i] :: xs.drop (i + 1) := List.drop_eq_getElem_cons hlt
    simp only [money_Right.l0]
    rw [if_pos (by omega), if_pos (by omega), if_pos (by omega), hrd, hdr]
    simp only [List.forall_mem_cons]
    by_cases h1 : xs[i] > 100000000000
    · rw [if_pos h1]
      have : ¬ okM xs[i] := fun h => by unfold okM at h; omega
      simp [this]
    · rw [if_neg h1]
      by_cases h2 : xs[i] < -100000000000
      · rw [if_pos h2]
        have : ¬ okM xs[i] := fun h => by unfold okM at h; omega
        simp [this]
      · rw [if_neg h2, w64 (by omega), show ((i : Int) + 1) = ((i + 1 : Nat) : Int) by omega, ih (i + 1) k (by omega) (by omega)]
        have : okM xs[i] := by unfold okM; omega
        simp [this]
theorem right_ok (xs : List Int) (hl : xs.length ≤ 60) (k : Nat) : money_Right.f (k + 61) xs = some (decide (∀ x ∈ xs, okM x)) := by
  unfold money_Right.f
  have := right_run xs (by omega) xs.length 0 (k + 61) (by omega) (by omega)
  simpa using this
theorem right1 (x : Int) (k : Nat) : money_Right.f (k + 61) [x] = some (decide (okM x)) := by
  rw [right_ok [x] (by simp)]
  simp
theorem fright (x : Int) : frac_Right.f x = some (decide (-1000000000000000 ≤ x ∧ x ≤ 1000000000000000)) := by
  unfold frac_Right.f
  by_cases h : x ≥ -1000000000000000
  · rw [if_pos h]; simp; omega
  · rw [if_neg h]; simp; omega
theorem frate (r : Int) : frac_Rate.f r = some (decide (0 ≤ r ∧ r ≤ 10000)) := by
  unfold frac_Rate.f
  by_cases h : r ≥ 0
  · rw [if_pos h]; simp; omega
  · rw [if_neg h]; simp; omega
theorem part_bounds {x r : Int} (hx : okM x) (hr : 0 ≤ r ∧ r ≤ 10000) : -1000000000000000 ≤ x * r ∧ x * r ≤ 1000000000000000 := by
  unfold okM at hx
  have h1 : x * r ≤ 100000000000 * r := Int.mul_le_mul_of_nonneg_right hx.2 hr.1
  have h2 : -100000000000 * r ≤ x * r := Int.mul_le_mul_of_nonneg_right hx.1 hr.1
  omega
theorem part_ok {x r : Int} (k : Nat) : frac_Part.f (k + 61) x r = some (if okM x then (if 0 ≤ r ∧ r ≤ 10000 then (x * r, 0) else (0, 50)) else (0, 10)) := by
  unfold frac_Part.f
  rw [right1]
  simp only [Option.bind_some, frate]
  by_cases hx : okM x
  · simp only [hx, decide_true, if_true]
    by_cases hr : 0 ≤ r ∧ r ≤ 10000
    · have := part_bounds hx hr
      simp only [hr, and_self, decide_true, if_true]
      rw [w64 (by omega)]
    · simp [hr]
  · simp [hx]
theorem coins_ok {x m : Int} (hx : -1000000000000000 ≤ x ∧ x ≤ 1000000000000000) (k : Nat) : frac_Coins.f k x m = frac_Round.f k x 10000 m := by
  unfold frac_Coins.f
  rw [fright]
  simp only [hx, and_self, decide_true, Option.bind_some, if_true]
  cases frac_Round.f k x 10000 m <;> rfl
/-- Rounded down. -/
theorem round_down {n d : Int} (hn : -9223372036854775808 ≤ n ∧ n ≤ 9223372036854775807) (hd : 0 < d) (hd2 : d ≤ 9223372036854775807) (k : Nat) : frac_Round.f (k + 1) n d 1 = some (n / d, 0) := by
  obtain ⟨u, hu, h01, hz, hp⟩ := round_ok (n := n) (d := d) (m := 1) hn hd hd2 (by omega) k
  have h1 := Int.emod_nonneg n (show d ≠ 0 by omega)
  have : u = 0 := by
    by_cases h0 : n % d = 0
    · exact hz h0
    · exact (hp (by omega)).1 rfl
  rw [hu, this, Int.add_zero]
theorem take_down {x r : Int} (k : Nat) : frac_Take.f (k + 61) x r 1 = some (if okM x then (if 0 ≤ r ∧ r ≤ 10000 then (x * r / 10000, 0) else (0, 50)) else (0, 10)) := by
  unfold frac_Take.f
  rw [part_ok]
  simp only [Option.bind_some]
  by_cases hx : okM x
  · by_cases hr : 0 ≤ r ∧ r ≤ 10000
    · have hb := part_bounds hx hr
      simp only [hx, hr, and_self, if_true]
      rw [coins_ok hb, show k + 61 = k + 60 + 1 from rfl, round_down (by omega) (by omega) (by omega)]
      rfl
    · simp [hx, hr]
  · simp [hx]
end Go.Proofs.Ytfiomckebicphaa.Pure
