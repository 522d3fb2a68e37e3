/- Plain facts on days: the document's day of a number. -/
import Derived.Test.YtojinnnckfimhaaX0
import Derived.Test.YtojinnnckfimhaaXdateOf
import Derived.Test.YtojinnnckfimhaaXstipendref03Of
import Derived.Test.YtojinnnckfimhaaMDate
namespace Go.Proofs.Ytojinnnckfimhaa.Pure
open Go.RowKit Go.Proofs.Ytojinnnckfimhaa.X Go.Proofs.YtojinnnckfimhaaW.PrintWords Go.Proofs.YtojinnnckfimhaaW.PrintLast

theorem rof_l1 {y : Int} (hy : yok y) : ∀ (j : Nat) (k : Nat) (r m : Int), m + j = 12 → 1 ≤ m → j + 4 < k → 0 ≤ r → r < cum y 13 - cum y m →
    ∃ m' d', stipendref03_Of.l1 k r y m = some (y, m', d', true) ∧ ok y m' d' ∧ cum y m' + d' - 1 = cum y m + r := by
  intro j
  induction j with
  | zero =>
    intro k r m hm h1 hk hr hr2
    obtain ⟨k, rfl⟩ : ∃ n, k = n + 1 := ⟨k - 1, by omega⟩
    obtain rfl : m = 12 := by omega
    have hc := cum_succ y 12 (by omega)
    have hl : last y 12 = dim y 12 := by unfold last; rw [if_pos hy]
    have hd := dim_bd y 12 (by omega)
    rw [show (12 : Int) + 1 = 13 from rfl] at hc
    simp only [stipendref03_Of.l1]
    rw [month_ok, hl]
    simp only [Option.bind_some]
    rw [if_neg (by omega), w64 (by omega)]
    exact ⟨12, r + 1, rfl, ⟨hy, by omega, by omega⟩, by omega⟩
  | succ j ih =>
    intro k r m hm h1 hk hr hr2
    obtain ⟨k, rfl⟩ : ∃ n, k = n + 1 := ⟨k - 1, by omega⟩
    have hc := cum_succ y m (by omega)
    have hl : last y m = dim y m := by unfold last; rw [if_pos hy]
    have hd := dim_bd y m (by omega)
    have h01 := lp_01 y
    have h13 := cum_13 y
    have h0 := cum_le y (a := 1) (b := m) (by omega) (by omega) (by omega)
    rw [cum_1] at h0
    simp only [stipendref03_Of.l1]
    rw [month_ok, hl]
    simp only [Option.bind_some]
    by_cases hge : r ≥ dim y m
    · rw [if_pos hge, w64 (x := r - dim y m) (by omega), w64 (x := m + 1) (by omega)]
      obtain ⟨m', d', h1', h2', h3'⟩ := ih k (r - dim y m) (m + 1) (by omega) (by omega) (by omega) (by omega) (by omega)
      exact ⟨m', d', h1', h2', by omega⟩
    · rw [if_neg hge, w64 (by omega)]
      exact ⟨m, r + 1, rfl, ⟨hy, by omega, by omega⟩, by omega⟩
theorem rof_l0 : ∀ (j : Nat) (k : Nat) (r y : Int), y + j = 2200 → 1900 ≤ y → j + 25 < k → 0 ≤ r → r ≤ 9223372036854775807 →
    (r + dby y < 109573 → ∃ y' m' d', stipendref03_Of.l0 k r y = some (y', m', d', true) ∧ ok y' m' d' ∧ num y' m' d' = r + dby y) ∧ (109573 ≤ r + dby y → stipendref03_Of.l0 k r y = some (0, 0, 0, false)) := by
  intro j
  induction j with
  | zero =>
    intro k r y hy h1 hk hr hr2
    obtain ⟨k, rfl⟩ : ∃ n, k = n + 1 := ⟨k - 1, by omega⟩
    obtain rfl : y = 2200 := by omega
    rw [dby_2200]
    simp only [stipendref03_Of.l0]
    rw [if_neg (by omega)]
    exact ⟨fun h => absurd h (by omega), fun _ => rfl⟩
  | succ j ih =>
    intro k r y hy h1 hk hr hr2
    obtain ⟨k, rfl⟩ : ∃ n, k = n + 1 := ⟨k - 1, by omega⟩
    have h01 := lp_01 y
    have hs := dby_succ y
    have h13 := cum_13 y
    have hyo : yok y := by unfold yok; omega
    have hup := dby_le (show y + 1 ≤ 2200 by omega)
    rw [dby_2200] at hup
    simp only [stipendref03_Of.l0]
    rw [if_pos (by omega), long_ok (by omega)]
    simp only [Option.bind_some]
    by_cases hge : r ≥ 365 + lp y
    · rw [if_pos hge, w64 (x := r - (365 + lp y)) (by omega), w64 (x := y + 1) (by omega)]
      have := ih k (r - (365 + lp y)) (y + 1) (by omega) (by omega) (by omega) (by omega) (by omega)
      rw [show r - (365 + lp y) + dby (y + 1) = r + dby y by omega] at this
      exact this
    · rw [if_neg hge]
      refine ⟨fun _ => ?_, fun h => absurd h (by omega)⟩
      obtain ⟨m', d', e1, e2, e3⟩ := rof_l1 hyo 11 k r 1 (by omega) (by omega) (by omega) hr (by rw [cum_1]; omega)
      refine ⟨y, m', d', e1, e2, ?_⟩
      rw [cum_1] at e3
      unfold num
      omega
theorem rof_no {n : Int} (h : n < 0 ∨ 109573 ≤ n) (hn : n ≤ 9223372036854775807) {k : Nat} (hk : 400 ≤ k) : stipendref03_Of.f k n = some (0, 0, 0, false) := by
  unfold stipendref03_Of.f
  by_cases h0 : n < 0
  · rw [if_pos h0]
  · rw [if_neg h0]
    exact (rof_l0 300 k n 1900 (by omega) (by omega) (by omega) (by omega) hn).2 (by rw [dby_1900]; omega)
theorem rof_ok {n : Int} (h : 0 ≤ n ∧ n < 109573) {k : Nat} (hk : 400 ≤ k) : ∃ y m d, stipendref03_Of.f k n = some (y, m, d, true) ∧ ok y m d ∧ num y m d = n := by
  unfold stipendref03_Of.f
  rw [if_neg (by omega)]
  have := (rof_l0 300 k n 1900 (by omega) (by omega) (by omega) (by omega) (by omega)).1 (by rw [dby_1900]; omega)
  rwa [dby_1900, Int.add_zero] at this
/-- Both tell the same day of a number. -/
theorem of_both {n : Int} (h : 0 ≤ n ∧ n < 109573) {k k' : Nat} (hk : 40 ≤ k) (hk' : 400 ≤ k') : ∃ y m d, date_Of.f k n = some (y, m, d, 0) ∧ stipendref03_Of.f k' n = some (y, m, d, true) ∧ ok y m d ∧ num y m d = n := by
  obtain ⟨y, m, d, e1, e2, e3⟩ := of_ok h hk
  obtain ⟨y', m', d', f1, f2, f3⟩ := rof_ok h hk'
  obtain ⟨rfl, rfl, rfl⟩ := num_inj e2 f2 (e3.trans f3.symm)
  exact ⟨y, m, d, e1, f1, e2, e3⟩
end Go.Proofs.Ytojinnnckfimhaa.Pure
