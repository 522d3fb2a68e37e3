/- Plain facts on the function Add of the package frac: exact amounts together, one by one. -/
import Derived.Test.YtfiomckebicphaaX7
import Derived.Test.YtfiomckebicphaaMRight
namespace Go.Proofs.Ytfiomckebicphaa.Pure
open Go.RowKit Go.Proofs.Ytfiomckebicphaa.X Go.Proofs.YtfiomckebicphaaW.PrintWords Go.Proofs.YtfiomckebicphaaW.PrintLast

def okE (x : Int) : Prop := -1000000000000000 ≤ x ∧ x ≤ 1000000000000000
instance (x : Int) : Decidable (okE x) := by unfold okE; exact inferInstance
theorem fright' (x : Int) : frac_Right.f x = some (decide (okE x)) := by
  rw [fright]
  rfl
/-- What is told of amounts together: the sum, or that it may not be. -/
def addS : List Int → Int → Int × Int
  | [], s => (s, 0)
  | x :: xs, s => if okE x then (if okE (s + x) then addS xs (s + x) else (0, 10)) else (0, 10)
theorem add_run (xs : List Int) (hl : xs.length ≤ 1000) : ∀ (d : Nat) (i k : Nat) (s : Int), i + d = xs.length → d < k → okE s →
    frac_Add.l0 k s xs (xs.length : Int) (i : Int) = some (addS (xs.drop i) s) := by
  intro d
  induction d with
  | zero =>
    intro i k s hi hk hs
    obtain ⟨k, rfl⟩ : ∃ m, k = m + 1 := ⟨k - 1, by omega⟩
    simp only [frac_Add.l0]
    rw [if_neg (by omega), List.drop_of_length_le (by omega)]
    rfl
  | succ d ih =>
    intro i k s hi hk hs
    obtain ⟨k, rfl⟩ : ∃ m, k = m + 1 := ⟨k - 1, by omega⟩
    have hlt : i < xs.length := by omega
    have hrd : rd xs (i : Int) = xs[i] := by simp [rd, hlt]
    have hdr : xs.drop i = xs[i] :: xs.drop (i + 1) := List.drop_eq_getElem_cons hlt
    simp only [frac_Add.l0]
    rw [if_pos (by omega), if_pos (by omega), if_pos (by omega), hrd, hdr, fright']
    simp only [Option.bind_some, addS, decide_eq_true_eq]
    by_cases h1 : okE xs[i]
    · rw [if_pos h1, if_pos h1]
      have h1' := h1
      unfold okE at h1' hs
      rw [w64 (x := s + xs[i]) (by omega), fright']
      simp only [Option.bind_some, decide_eq_true_eq]
      by_cases h2 : okE (s + xs[i])
      · rw [if_pos h2, if_pos h2, w64 (by omega), show ((i : Int) + 1) = ((i + 1 : Nat) : Int) by omega]
        exact ih (i + 1) k _ (by omega) (by omega) h2
      · rw [if_neg h2, if_neg h2]
    · rw [if_neg h1, if_neg h1]
theorem add_ok (xs : List Int) (hl : xs.length ≤ 60) (k : Nat) : frac_Add.f (k + 61) xs = some (addS xs 0) := by
  unfold frac_Add.f
  have := add_run xs (by omega) xs.length 0 (k + 61) 0 (by omega) (by omega) (by unfold okE; omega)
  simpa using this
theorem round_some (n d m : Int) (hn : -9223372036854775808 ≤ n ∧ n ≤ 9223372036854775807) (hd : d ≤ 9223372036854775807) (k : Nat) : ∃ r, frac_Round.f (k + 1) n d m = some r := by
  by_cases h : d ≤ 0 ∨ m < 1 ∨ 6 < m
  · exact ⟨_, round_bad h k⟩
  · obtain ⟨u, hu, _⟩ := round_ok (n := n) (d := d) (m := m) hn (by omega) hd (by omega) k
    exact ⟨_, hu⟩
theorem take_any {x r m : Int} (k : Nat) : frac_Take.f (k + 61) x r m = (if okM x then (if 0 ≤ r ∧ r ≤ 10000 then frac_Round.f (k + 61) (x * r) 10000 m else some (0, 50)) else some (0, 10)) := by
  unfold frac_Take.f
  rw [part_ok]
  simp only [Option.bind_some]
  by_cases hx : okM x
  · by_cases hr : 0 ≤ r ∧ r ≤ 10000
    · have hb := part_bounds hx hr
      simp only [hx, hr, and_self, if_true]
      rw [coins_ok hb]
      cases frac_Round.f (k + 61) (x * r) 10000 m <;> rfl
    · simp [hx, hr]
  · simp [hx]
end Go.Proofs.Ytfiomckebicphaa.Pure
