/- The law HoldRises of the package stipendlaw14 holds for every input: of more that is due no less is withheld, and of more cash no less; and a coin more of both is never more than a coin more. No condition. -/
import Derived.Test.YtfiomckebicphaaX0
import Derived.Test.YtfiomckebicphaaXstipendlaw14HoldRises
import Derived.Test.YtfiomckebicphaaMHold
namespace Go.Proofs.Ytfiomckebicphaa.Pure
open Go Go.RowKit Go.Proofs.Ytfiomckebicphaa.X Go.Proofs.YtfiomckebicphaaW.PrintWords Go.Proofs.YtfiomckebicphaaW.PrintLast Go.Proofs.YtfiomckebicphaaW.PrintMore

/-- From nought, and in bounds, a step holds what it holds, and there is no error. -/
theorem step_free {r cash due : Int} {back : Bool} (hr : 0 ≤ r ∧ r ≤ 10000) (hc : -50000000001 ≤ cash ∧ cash ≤ 50000000001) (hd : -50000000001 ≤ due ∧ due ≤ 50000000001) :
    (step r 0 0 cash due back).1 = held due (lim r cash) back ∧ (step r 0 0 cash due back).2.2.2 = 0 := by
  have k0 : okM 0 := by unfold okM; omega
  have kc : okM cash := by unfold okM; omega
  have kd : okM due := by unfold okM; omega
  have kl := lim_bd (pos_ok kc) hr
  have hp := pos_bd cash
  unfold step
  rw [if_pos ⟨k0, k0, kc, kd⟩, if_pos hr, Int.sub_zero, Int.zero_add, if_pos]
  · exact ⟨rfl, rfl⟩
  · have hh := held_cases due (lim r cash) back
    refine ⟨kd, ?_, ?_⟩ <;> rw [hh] <;> unfold okM <;> (repeat' split) <;> omega

theorem lim_mono {r c d : Int} (hr : 0 ≤ r ∧ r ≤ 10000) (h : c ≤ d) (h1 : d ≤ c + 1) : lim r c ≤ lim r d ∧ lim r d ≤ lim r c + 1 := by
  unfold lim
  have hp : pos c ≤ pos d ∧ pos d ≤ pos c + 1 := by unfold pos; repeat' split <;> omega
  have h2 : pos c * r ≤ pos d * r := Int.mul_le_mul_of_nonneg_right hp.1 hr.1
  have h3 : pos d * r ≤ (pos c + 1) * r := Int.mul_le_mul_of_nonneg_right hp.2 hr.1
  have h4 : (pos c + 1) * r = pos c * r + r := by rw [Int.add_mul, Int.one_mul]
  omega

theorem rises_round {r need cash : Int} {k : Nat} {i : Int} (hk : 63 ≤ k) (hr : 0 ≤ r ∧ r ≤ 10000) (hn : -50000000000 ≤ need ∧ need ≤ 50000000000) (hc : -50000000000 ≤ cash ∧ cash ≤ 50000000000) (hi : 0 ≤ i ∧ i < 2)
    (rest : ∀ k', k ≤ k' + 2 → stipendlaw14_HoldRises.l0 k' need cash (i + 1) r 0 = some true) : stipendlaw14_HoldRises.l0 k need cash i r 0 = some true := by
  obtain ⟨k, rfl⟩ : ∃ n, k = n + 2 := ⟨k - 2, by omega⟩
  have go : stipendlaw14_HoldRises.j2 (k + 1) need cash i false r 0 = some true := by
    unfold stipendlaw14_HoldRises.j2
    rw [if_neg (by simp), w64 (by omega)]
    exact rest k (by omega)
  unfold stipendlaw14_HoldRises.l0
  rw [if_pos hi.2, if_pos hi.1, w64 (x := need + 1) (by omega), w64 (x := cash + 1) (by omega)]
  simp only [step_ok _ _ _ (show 61 ≤ k + 1 by omega), Option.bind_some]
  obtain ⟨a1, a2⟩ := step_free (back := (i == 1)) hr (cash := cash) (due := need) (by omega) (by omega)
  obtain ⟨b1, b2⟩ := step_free (back := (i == 1)) hr (cash := cash) (due := need + 1) (by omega) (by omega)
  obtain ⟨c1, c2⟩ := step_free (back := (i == 1)) hr (cash := cash + 1) (due := need) (by omega) (by omega)
  obtain ⟨d1, d2⟩ := step_free (back := (i == 1)) hr (cash := cash + 1) (due := need + 1) (by omega) (by omega)
  rw [a1, a2, b1, b2, c1, c2, d1, d2, if_pos (by decide +kernel)]
  obtain ⟨l1, l2⟩ := lim_mono hr (c := cash) (d := cash + 1) (by omega) (by omega)
  have l3 := lim_bd (rate := r) (cash := cash) (by unfold okM pos; split <;> omega) hr
  have l4 := lim_bd (rate := r) (cash := cash + 1) (by unfold okM pos; split <;> omega) hr
  have l5 := pos_bd cash
  have l6 := pos_bd (cash + 1)
  simp only [held_cases]
  generalize lim r cash = m at *
  generalize lim r (cash + 1) = n at *
  by_cases hi1 : i = 1
  · subst hi1
    simp only [BEq.rfl, if_true]
    rw [if_neg (by repeat' split <;> omega), if_neg (by repeat' split <;> omega), if_neg (by repeat' split <;> omega), if_neg (by repeat' split <;> omega), if_neg (by rw [w64] <;> (repeat' split) <;> omega), if_neg (by repeat' split <;> omega)]
    exact go
  · have hb : (i == 1) = false := by simp [hi1]
    simp only [hb, Bool.false_eq_true, if_false, if_neg hi1]
    rw [if_neg (by repeat' split <;> omega), if_neg (by repeat' split <;> omega), if_neg (by repeat' split <;> omega), if_neg (by repeat' split <;> omega), if_neg (by rw [w64] <;> (repeat' split) <;> omega)]
    rw [show decide ((if 0 < (if m < need then m else need) then (if m < need then m else need) else 0) < 0) = false by simp only [decide_eq_false_iff_not]; repeat' split <;> omega]
    rw [ite_self]
    exact go

theorem HoldRises : stipendlaw14_HoldRises.Pure := by
  intro r need cash hr hn hc
  refine ⟨199 + 1, ?_⟩
  unfold stipendlaw14_HoldRises.f
  rw [holds_ok (by omega)]
  simp only [Option.bind_some, if_true]
  have out : stipendlaw14_HoldRises.j0 (199 + 1) r need cash true = some true := by
    simp only [stipendlaw14_HoldRises.j0, if_true]
  by_cases h1 : r < 0
  · rw [if_pos h1]; exact out
  rw [if_neg h1]
  by_cases h2 : r > 10000
  · rw [if_pos h2]; exact out
  rw [if_neg h2]
  by_cases h3 : need > 50000000000
  · rw [if_pos h3]; exact out
  rw [if_neg h3]
  by_cases h4 : need < -50000000000
  · rw [if_pos h4]; exact out
  rw [if_neg h4]
  by_cases h5 : cash > 50000000000
  · rw [if_pos h5]; exact out
  rw [if_neg h5]
  by_cases h6 : cash < -50000000000
  · rw [decide_eq_true h6]; exact out
  rw [decide_eq_false h6]
  simp only [stipendlaw14_HoldRises.j0, Bool.false_eq_true, if_false]
  refine rises_round (by omega) (by omega) (by omega) (by omega) (by omega) fun k' hk' => ?_
  refine rises_round (by omega) (by omega) (by omega) (by omega) (by omega) fun k2 hk2 => ?_
  obtain ⟨k2, rfl⟩ : ∃ n, k2 = n + 1 := ⟨k2 - 1, by omega⟩
  unfold stipendlaw14_HoldRises.l0
  rw [if_neg (by omega)]

end Go.Proofs.Ytfiomckebicphaa.Pure
