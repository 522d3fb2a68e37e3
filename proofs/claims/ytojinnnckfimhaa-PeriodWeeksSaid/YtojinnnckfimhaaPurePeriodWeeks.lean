/- The law PeriodWeeks, over numbers alone: periods of days have just as many days, but the last one; those of months begin on the day of the month on which the year does, or on a month's last one. -/
import Derived.Test.YtojinnnckfimhaaX0
import Derived.Test.YtojinnnckfimhaaXstipendlaw04PeriodWeeks
import Derived.Test.YtojinnnckfimhaaMYear
import Derived.Test.YtojinnnckfimhaaMCuts
namespace Go.Proofs.Ytojinnnckfimhaa.Pure
open Go.RowKit Go.Proofs.Ytojinnnckfimhaa.X Go.Proofs.YtojinnnckfimhaaW.PrintWords Go.Proofs.YtojinnnckfimhaaW.PrintLast

theorem rd_nomi {f : Int} (h1 : 1 ≤ f) (h4 : f ≤ 4) : nomi f = rd ([0, 52, 26, 13, 12] : List Int) f := by
  rcases f_cases h1 h4 with rfl | rfl | rfl | rfl <;> rfl
theorem rd_len {f : Int} (h1 : 1 ≤ f) (h4 : f < 4) : rd ([0, 7, 14, 28] : List Int) f = len f := by
  rcases f_cases h1 (by omega) with rfl | rfl | rfl | rfl
  · rfl
  · rfl
  · rfl
  · omega
theorem PeriodWeeks : stipendlaw04_PeriodWeeks.Pure := by
  intro f y m d k _ _ _ _ _
  refine ⟨500, ?_⟩
  unfold stipendlaw04_PeriodWeeks.f
  rw [cuts_ok (by omega)]
  simp only [Option.bind_some, if_true]
  by_cases hg : good f y m d
  · obtain ⟨ey, em, ed, e1, h⟩ := new_yes hg (k := 500) (by omega)
    rw [if_pos ((made_iff _ _ _ _).2 hg), e1]
    simp only [Option.bind_some]
    have hn := ys_n h
    have hc := ys_c h
    generalize num y m d = n at *
    generalize num (y + 1) m d - n = c at *
    by_cases hk : 1 ≤ k ∧ k ≤ cnt f
    · obtain ⟨a, b, e, a', b', e', s1, s2, s3, s4, s5⟩ := span_ok h hk (K := 500) (by omega)
      have r1 := bgn_rng h (k := k) (by omega)
      have r2 := bgn_rng h (k := k + 1) (by omega)
      rw [s1]
      simp only [Option.bind_some]
      rw [part_ok h (by omega), if_pos hk]
      simp only [Option.bind_some]
      rw [if_neg (by omega), count_ok h]
      simp only [Option.bind_some]
      rw [show decide (k > cnt f) = false by simp; omega]
      rw [show (500 : Nat) = 498 + 1 + 1 from rfl]
      simp only [stipendlaw04_PeriodWeeks.j0, Bool.false_eq_true, if_false]
      rw [between_ok (by omega), if_pos ⟨s2, s4⟩, s3, s5]
      simp only [Option.bind_some]
      have h1 := h.f1
      have h4 := h.f4
      rw [if_pos (by decide +kernel), if_pos (by omega), if_pos (by omega), if_pos (rd_nomi h1 h4), show (mn k (nomi f) != mn k (nomi f)) = false by simp]
      simp only [stipendlaw04_PeriodWeeks.j1, Bool.false_eq_true, if_false]
      by_cases hf : f = 4
      · rw [if_pos hf]
        have hj : 0 ≤ k - 1 ∧ k - 1 ≤ 12 := by subst hf; have : cnt 4 = 12 := rfl; omega
        have hm := mday_ok h.ho h.hy hj
        have hs : num a b e = mday y m d (k - 1) := by rw [s3]; unfold bgn; rw [if_pos hf]
        unfold mday at hs
        generalize (12 * y + m - 1 + (k - 1)) / 12 = Y at *
        generalize (12 * y + m - 1 + (k - 1)) % 12 + 1 = M at *
        obtain ⟨rfl, rfl, hd⟩ := num_inj s2 hm hs
        have hy := s2.1
        rw [mn_min] at hd
        by_cases hl : d ≤ dim a b
        · rw [if_pos hl] at hd
          rw [if_pos hd]
        · rw [if_neg hl] at hd
          rw [if_neg (by omega), if_pos (by omega), month_ok]
          unfold last
          rw [if_pos hy]
          simp [hd]
      · rw [if_neg hf, if_pos (by omega), if_pos (by omega), rd_len h1 (by omega)]
        have hb : ∀ q : Int, bgn f y m d n c q = n + mn (len f * (q - 1)) c := by intro q; unfold bgn; rw [if_neg hf]
        rw [hb, hb, w64 (x := len f - 1) (by rcases len_cases h1 h4 with ⟨_, e, _⟩ | ⟨_, e, _⟩ | ⟨_, e, _⟩ | ⟨_, e, _⟩ <;> omega)]
        have hB : n + mn (len f * (k + 1 - 1)) c - 1 - (n + mn (len f * (k - 1)) c) = len f - 1 ∨ (k = cnt f ∧ n + mn (len f * (k + 1 - 1)) c - 1 - (n + mn (len f * (k - 1)) c) < len f) := by
          rw [mn_min, mn_min]
          rcases len_cases h1 h4 with ⟨_, e, e'⟩ | ⟨_, e, e'⟩ | ⟨_, e, e'⟩ | ⟨hf', _⟩
          · have hk2 := hk.2; rw [e'] at hk2 ⊢; rw [e]; split <;> split <;> omega
          · have hk2 := hk.2; rw [e'] at hk2 ⊢; rw [e]; split <;> split <;> omega
          · have hk2 := hk.2; rw [e'] at hk2 ⊢; rw [e]; split <;> split <;> omega
          · exact absurd hf' hf
        generalize n + mn (len f * (k + 1 - 1)) c - 1 - (n + mn (len f * (k - 1)) c) = B at hB ⊢
        by_cases hx : B = len f - 1
        · rw [if_pos hx]
        · have hB' := hB.resolve_left hx
          rw [if_neg hx, count_ok h]
          simp only [Option.bind_some]
          rw [if_pos hB'.1, decide_eq_true hB'.2]
    · rw [span_no h hk (by omega)]
      simp only [Option.bind_some]
      rw [part_ok h (by omega), if_neg hk]
      simp only [Option.bind_some]
      by_cases h1 : k < 1
      · rw [if_pos h1]
        rfl
      · rw [if_neg h1, count_ok h]
        simp only [Option.bind_some]
        rw [show decide (k > cnt f) = true by simp; omega]
        rfl
  · rw [if_neg (fun h => hg ((made_iff _ _ _ _).1 h)), (new_no hg (k := 500) (by omega)).2]
    rfl

end Go.Proofs.Ytojinnnckfimhaa.Pure
