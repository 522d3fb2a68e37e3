/- The law WholeYears, over numbers alone: tax years of one frequency follow each other without a gap; a day is in just one of them, and as far from its year's first day as the periods ahead and its own tell. -/
import Derived.Test.YtojinnnckfimhaaX0
import Derived.Test.YtojinnnckfimhaaXperiodNominal
import Derived.Test.YtojinnnckfimhaaXperiodYearStart
import Derived.Test.YtojinnnckfimhaaXstipendtopWholeYears
import Derived.Test.YtojinnnckfimhaaMYear
namespace Go.Proofs.Ytojinnnckfimhaa.Pure
open Go.RowKit Go.Proofs.Ytojinnnckfimhaa.X Go.Proofs.YtojinnnckfimhaaW.PrintWords Go.Proofs.YtojinnnckfimhaaW.PrintLast

theorem wy_l1 {f y m d ey em ed n c a b e k : Int} (h : YS f y m d ey em ed n c) (ho : ok a b e) (hk : 1 ≤ k ∧ k ≤ cnt f) (hb : bgn f y m d n c k ≤ num a b e) :
    ∀ (j : Nat) (i : Int) (K : Nat), 1 ≤ i → i + j = k → j + 70 ≤ K → stipendtop_WholeYears.l1 K k (bgn f y m d n c i - n) i f y m d ey em ed n c a b e = some true := by
  have hc := ys_c h
  have hn := ys_n h
  have hr := num_range ho
  have hcb := cnt_bd h.f1 h.f4
  intro j
  induction j with
  | zero =>
    intro i K h1 hi hK
    obtain ⟨K, rfl⟩ : ∃ q, K = q + 1 := ⟨K - 1, by omega⟩
    obtain rfl : i = k := by omega
    have r1 := bgn_rng h (k := i) (by omega)
    obtain ⟨p, q, s, p', q', s', s1, s2, s3, s4, s5⟩ := span_ok h hk (K := K) (by omega)
    simp only [stipendtop_WholeYears.l1]
    rw [if_neg (by omega), s1]
    simp only [Option.bind_some]
    rw [between_ok (by omega), if_pos ⟨s2, ho⟩]
    unfold period_Year_Start.f
    simp only [Option.bind_some]
    rw [between_ok (by omega), if_pos ⟨h.ho, ho⟩, s3, ← h.hn]
    simp only [Option.bind_some, if_true]
    rw [w64 (by omega), if_pos (by omega), decide_eq_true (by omega)]
  | succ j ih =>
    intro i K h1 hi hK
    obtain ⟨K, rfl⟩ : ∃ q, K = q + 1 := ⟨K - 1, by omega⟩
    have r1 := bgn_rng h (k := i) (by omega)
    have r2 := bgn_rng h (k := i + 1) (by omega)
    obtain ⟨p, q, s, p', q', s', s1, s2, s3, s4, s5⟩ := span_ok h (k := i) (by omega) (K := K) (by omega)
    simp only [stipendtop_WholeYears.l1]
    rw [if_pos (by omega), s1]
    simp only [Option.bind_some]
    rw [between_ok (by omega), if_pos ⟨s2, s4⟩, s3, s5]
    simp only [Option.bind_some]
    rw [w64 (x := bgn f y m d n c (i + 1) - 1 - bgn f y m d n c i + 1) (by omega), w64 (x := i + 1) (by omega), w64 (by omega),
      show bgn f y m d n c i - n + (bgn f y m d n c (i + 1) - 1 - bgn f y m d n c i + 1) = bgn f y m d n c (i + 1) - n by omega]
    exact ih (i + 1) K (by omega) (by omega) (by omega)
theorem wy_l0 {f m d a b e : Int} (ho : ok a b e) : ∀ (j : Nat) (i y ey em ed n c : Int) (K : Nat), YS f y m d ey em ed n c → 0 ≤ i → i + j = 11 → n ≤ num a b e → num a b e ≤ n + 4000 - 365 * i → j + 150 ≤ K →
    stipendtop_WholeYears.l0 K i f y m d ey em ed n c a b e = some true := by
  have hr := num_range ho
  intro j
  induction j with
  | zero => intro i y ey em ed n c K h h0 hi hv hv2 hK; omega
  | succ j ih =>
    intro i y ey em ed n c K h h0 hi hv hv2 hK
    obtain ⟨K, rfl⟩ : ∃ q, K = q + 1 := ⟨K - 1, by omega⟩
    have hc := ys_c h
    have hn := ys_n h
    have hen := h.hen
    simp only [stipendtop_WholeYears.l0]
    rw [if_pos (by omega)]
    by_cases hin : num a b e < n + c
    · obtain ⟨k, i1, i2, i3, i4, i5⟩ := index_in h ho ⟨hv, hin⟩ (K := K) (by omega)
      have hcb := cnt_bd h.f1 h.f4
      rw [i1]
      simp only [Option.bind_some, if_true]
      have := wy_l1 h ho ⟨i2, i3⟩ i4 (k - 1).toNat 1 K (by omega) (by omega) (by omega)
      rwa [bgn_1 h, Int.sub_self] at this
    · rw [index_out h ho (by omega) (by omega)]
      unfold period_Year_End.f
      simp only [Option.bind_some]
      rw [if_neg (by decide), between_ok (by omega), if_pos ⟨h.he, ho⟩]
      simp only [Option.bind_some]
      rw [if_neg (by omega), next_made h]
      by_cases hy : y + 2 ≤ 2199
      · have hg := (next_good h).2 hy
        obtain ⟨ey', em', ed', e1, h'⟩ := new_yes hg (k := K) (by omega)
        rw [if_pos ((made_iff _ _ _ _).2 hg), next_A h (by omega), e1]
        unfold period_Year_Start.f
        simp only [Option.bind_some]
        rw [between_ok (by omega), if_pos ⟨h.he, h'.ho⟩]
        simp only [Option.bind_some]
        have hcc := h.hc
        rw [if_pos (by omega), w64 (x := i + 1) (by omega)]
        exact ih (i + 1) (y + 1) ey' em' ed' _ _ K h' (by omega) (by omega) (by omega) (by omega) (by omega)
      · have hg : ¬ good f (y + 1) m d := fun g => hy ((next_good h).1 g)
        rw [if_neg (fun g => hg ((made_iff _ _ _ _).1 g)), next_B h hy (by omega)]
        rfl
theorem WholeYears : stipendtop_WholeYears.Pure := by
  intro f y m d t _ _ _ _ _
  refine ⟨500 + 1 + 1, ?_⟩
  unfold stipendtop_WholeYears.f
  have ho2 : ok 1900 1 2 := by decide
  have e2 : num 1900 1 2 = 1 := by decide
  rw [number_ok (by omega), if_pos ho2, e2]
  simp only [Option.bind_some, if_true]
  rw [show period_Nominal.f 1 = some 52 from rfl]
  simp only [Option.bind_some, bne_self_eq_false]
  simp only [stipendtop_WholeYears.j0, Bool.false_eq_true, if_false]
  by_cases h1 : t < 0
  · rw [if_pos h1]
    simp only [stipendtop_WholeYears.j1, if_true]
  · rw [if_neg h1]
    by_cases h2 : t > 4000
    · rw [decide_eq_true h2]
      simp only [stipendtop_WholeYears.j1, if_true]
    · rw [decide_eq_false h2]
      simp only [stipendtop_WholeYears.j1, Bool.false_eq_true, if_false]
      by_cases hg : good f y m d
      · obtain ⟨ey, em, ed, e1, h⟩ := new_yes hg (k := 500) (by omega)
        have hn := ys_n h
        rw [if_pos ((made_iff _ _ _ _).2 hg), e1]
        simp only [Option.bind_some]
        by_cases hr : num y m d + t < 109573
        · obtain ⟨a, b, e, a1, a2, a3⟩ := add_ok h.ho (b := t) (by omega) (k := 500) (by omega)
          rw [a1]
          simp only [Option.bind_some, if_true]
          exact wy_l0 a2 11 0 y ey em ed _ _ 500 h (by omega) (by omega) (by omega) (by omega) (by omega)
        · rw [add_no (Or.inr (Or.inr (by omega))) (by omega)]
          rfl
      · rw [if_neg (fun h => hg ((made_iff _ _ _ _).1 h)), (new_no hg (k := 500) (by omega)).2]
        rfl

end Go.Proofs.Ytojinnnckfimhaa.Pure
