/- Plain facts on the law package stipendlaw14's own function right. -/
import Derived.Test.YtfiomckebicphaaX0
import Derived.Test.YtfiomckebicphaaXstipendlaw14right
import Derived.Test.YtfiomckebicphaaMHold
namespace Go.Proofs.Ytfiomckebicphaa.Pure
open Go Go.RowKit Go.Proofs.Ytfiomckebicphaa.X Go.Proofs.YtfiomckebicphaaW.PrintWords Go.Proofs.YtfiomckebicphaaW.PrintLast

theorem lright_run (xs : List Int) (hl : xs.length ≤ 1000) : ∀ (d : Nat) (i k : Nat), i + d = xs.length → d < k →
    stipendlaw14_right.l0 k xs (xs.length : Int) (i : Int) = some (decide (∀ x ∈ xs.drop i, okM x)) := by
  intro d
  induction d with
  | zero =>
    intro i k hi hk
    obtain ⟨k, rfl⟩ : ∃ m, k = m + 1 := ⟨k - 1, by omega⟩
    simp only [stipendlaw14_right.l0]
    rw [if_neg (by omega), List.drop_of_length_le (by omega)]
    simp
  | succ d ih =>
    intro i k hi hk
    obtain ⟨k, rfl⟩ : ∃ m, k = m + 1 := ⟨k - 1, by omega⟩
    have hlt : i < xs.length := by omega
    have hrd : rd xs (i : Int) = xs[i] := by simp [rd, hlt]
    have hdr : xs.drop i = xs[i] :: xs.drop (i + 1) := List.drop_eq_getElem_cons hlt
    simp only [stipendlaw14_right.l0]
    rw [if_pos (by omega), if_pos (by omega), if_pos (by omega), hrd, hdr]
    simp only [List.forall_mem_cons]
    by_cases h1 : xs[i] > 100000000000
    · rw [if_pos h1]
      have : ¬ okM xs[i] := fun h => by unfold okM at h; omega
      simp [this]
    · rw [if_neg h1]
      by_cases h2 : xs[i] < -100000000000
      · rw [if_pos h2]
        have : ¬ okM xs[i] := fun h => by unfold okM at h; omega
        simp [this]
      · rw [if_neg h2, w64 (by omega), show ((i : Int) + 1) = ((i + 1 : Nat) : Int) by omega, ih (i + 1) k (by omega) (by omega)]
        have : okM xs[i] := by unfold okM; omega
        simp [this]
theorem lright_ok (xs : List Int) (hl : xs.length ≤ 60) {k : Nat} (hk : 61 ≤ k) : stipendlaw14_right.f k xs = some (decide (∀ x ∈ xs, okM x)) := by
  unfold stipendlaw14_right.f
  have := lright_run xs (by omega) xs.length 0 k (by omega) (by omega)
  simpa using this
end Go.Proofs.Ytfiomckebicphaa.Pure
