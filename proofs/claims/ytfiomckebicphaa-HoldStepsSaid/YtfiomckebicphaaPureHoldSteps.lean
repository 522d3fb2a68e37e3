/- The law HoldSteps of the package stipendlaw14 holds for every input: what was withheld and what is carried are together what is due; withheld is what is needed, but no more than the limit, and nothing is paid back, unless it may be. No condition. -/
import Derived.Test.YtfiomckebicphaaX0
import Derived.Test.YtfiomckebicphaaXholdStateDue
import Derived.Test.YtfiomckebicphaaXstipendlaw14HoldSteps
import Derived.Test.YtfiomckebicphaaXstipendlaw14HoldStepsb
import Derived.Test.YtfiomckebicphaaMLaw14
namespace Go.Proofs.Ytfiomckebicphaa.Pure
open Go Go.RowKit Go.Proofs.Ytfiomckebicphaa.X Go.Proofs.YtfiomckebicphaaW.PrintWords Go.Proofs.YtfiomckebicphaaW.PrintLast Go.Proofs.YtfiomckebicphaaW.PrintMore

theorem steps_j3 {W S cash due need want : Int} {back : Bool} {x8 x10 y1 y2 : Int} (hW : okM W) (hS : okM S) (hdue : okM due) (hn : need = due - W) (h2 : -300000000000 ≤ want ∧ want ≤ 300000000000)
    (h : (x8, y1, y2, x10) = if okM need ∧ okM (W + want) ∧ okM (need - want) then (want, W + want, need - want, 0) else (0, W, S, 10)) {k : Nat} (hk : 70 ≤ k) :
    stipendlaw14_HoldSteps.j3 k x8 x10 need want W S cash due back y1 y2 = some true := by
  obtain ⟨k, rfl⟩ : ∃ n, k = n + 1 := ⟨k - 1, by omega⟩
  have h1 := okM_bd hW
  have h3 := okM_bd hdue
  simp only [stipendlaw14_HoldSteps.j3]
  rw [w64 (x := W + want) (by omega), w64 (x := need - want) (by omega), lright_ok _ (by simp) (by omega)]
  simp only [Option.bind_some, List.forall_mem_cons, List.not_mem_nil, false_implies, implies_true, and_true, decide_eq_true_eq]
  by_cases hc : okM need ∧ okM (W + want) ∧ okM (need - want)
  · rw [if_pos hc] at h
    simp only [Prod.mk.injEq] at h
    obtain ⟨rfl, rfl, rfl, rfl⟩ := h
    rw [if_pos hc]
    simp only [if_true, beq_self_eq_true, Bool.and_self, hold_State_Due.f, Option.bind_some]
    rw [w64 (by omega)]
    simp
    omega
  · rw [if_neg hc] at h
    simp only [Prod.mk.injEq] at h
    obtain ⟨rfl, rfl, rfl, rfl⟩ := h
    rw [if_neg hc]
    simp
theorem HoldSteps : stipendlaw14_HoldSteps.Pure := by
  intro r W S c due back hr hW hS hc hdue
  have hr := wf64 hr
  have hW := wf64 hW
  have hS := wf64 hS
  have hc := wf64 hc
  have hdue := wf64 hdue
  refine ⟨99 + 1, ?_⟩
  unfold stipendlaw14_HoldSteps.f
  rw [holds_ok (by omega), step_ok _ _ _ (by omega), lright_ok _ (by simp) (by omega)]
  simp only [Option.bind_some, if_true, List.forall_mem_cons, List.not_mem_nil, false_implies, implies_true, and_true, decide_eq_true_eq]
  obtain ⟨K, hK⟩ : ∃ K, K = 99 := ⟨99, rfl⟩
  rw [← hK]
  unfold step
  by_cases h : okM W ∧ okM S ∧ okM c ∧ okM due
  · obtain ⟨h1, h2, h3, h4⟩ := h
    have b1 := okM_bd h1
    have b3 := okM_bd h3
    have b4 := okM_bd h4
    simp only [h1, h2, h3, h4, and_self, if_true]
    by_cases hrr : 0 ≤ r ∧ r ≤ 10000
    · rw [if_neg (by omega), show decide (r > 10000) = false by simp; omega]
      simp only [hrr, and_self, if_true, stipendlaw14_HoldSteps.j0, Bool.false_eq_true, if_false, mx_pos]
      have hpb := part_bounds (pos_ok h3) hrr
      have hpp := pos_bd c
      have hl := lim_bd (pos_ok h3) hrr
      have hpos := okM_bd (pos_ok h3)
      have hlim : wrap64 (Int.tdiv (wrap64 (pos c * r)) 10000) = lim r c := by
        have h0 : 0 ≤ pos c * r := Int.mul_nonneg hpp.1 hrr.1
        rw [w64 (x := pos c * r) (by omega), Int.tdiv_eq_ediv_of_nonneg h0]
        show wrap64 (lim r c) = lim r c
        exact w64 (by omega)
      rw [hlim, w64 (x := due - W) (by omega)]
      generalize hR : (if okM (due - W) ∧ okM (W + held (due - W) (lim r c) back) ∧ okM (due - W - held (due - W) (lim r c) back) then (held (due - W) (lim r c) back, W + held (due - W) (lim r c) back, due - W - held (due - W) (lim r c) back, (0 : Int)) else (0, W, S, 10)) = R
      have hh := held_cases (due - W) (lim r c) back
      have hbd : -300000000000 ≤ held (due - W) (lim r c) back ∧ held (due - W) (lim r c) back ≤ 300000000000 := by
        rw [hh]
        repeat' split
        all_goals omega
      have j3 : ∀ k, 70 ≤ k → stipendlaw14_HoldSteps.j3 k R.1 R.2.2.2 (due - W) (held (due - W) (lim r c) back) W S c due back R.2.1 R.2.2.1 = some true :=
        fun k hk => steps_j3 h1 h2 h4 rfl hbd (by rw [hR]) hk
      obtain ⟨K, rfl⟩ : ∃ n, K = n + 1 + 1 + 1 := ⟨K - 3, by omega⟩
      have fin : ∀ w0 : Int, w0 = (if lim r c < due - W then lim r c else due - W) → stipendlaw14_HoldSteps.j1 (K + 1 + 1 + 1) R.1 R.2.2.2 (due - W) w0 W S c due back R.2.1 R.2.2.1 = some true := by
        intro w0 hw0
        rw [← hw0] at hh
        generalize hK2 : K + 1 + 1 = K2
        simp only [stipendlaw14_HoldSteps.j1]
        subst hK2
        simp only [stipendlaw14_HoldSteps.j2]
        by_cases hneg : w0 < 0
        · rw [if_pos hneg]
          cases back with
          | true =>
            simp only [Bool.not_true, Bool.false_eq_true, if_false]
            rw [show w0 = held (due - W) (lim r c) true by rw [hh]; simp]
            exact j3 _ (by omega)
          | false =>
            simp only [Bool.not_false, if_true]
            rw [show (0 : Int) = held (due - W) (lim r c) false by rw [hh]; simp; omega]
            exact j3 _ (by omega)
        · rw [if_neg hneg]
          simp only [Bool.false_eq_true, if_false]
          rw [show w0 = held (due - W) (lim r c) back by rw [hh]; cases back <;> simp; omega]
          exact j3 _ (by omega)
      by_cases hgt : due - W > lim r c
      · rw [if_pos hgt]; exact fin _ (by rw [if_pos hgt])
      · rw [if_neg hgt]; exact fin _ (by rw [if_neg hgt])
    · simp only [hrr, if_false]
      by_cases hr1 : r < 0
      · rw [if_pos hr1]; simp [stipendlaw14_HoldSteps.j0]
      · rw [if_neg hr1, show decide (r > 10000) = true by simp; omega]; simp [stipendlaw14_HoldSteps.j0]
  · simp only [h, if_false]
    simp

end Go.Proofs.Ytfiomckebicphaa.Pure
