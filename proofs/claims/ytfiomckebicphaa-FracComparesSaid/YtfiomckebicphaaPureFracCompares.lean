/- The law FracCompares of the package stipendlaw02 holds for every input: which of two fractions is less is told for any, as by their lowest terms; of three, what is less than what is less than a third is less than that. No condition. -/
import Derived.Test.YtfiomckebicphaaX0
import Derived.Test.YtfiomckebicphaaXfracCompare
import Derived.Test.YtfiomckebicphaaXstipendlaw02parts
import Derived.Test.YtfiomckebicphaaXstipendlaw02great
import Derived.Test.YtfiomckebicphaaXstipendlaw02FracCompares
import Derived.Test.YtfiomckebicphaaMParts
import Derived.Test.YtfiomckebicphaaMCompare
namespace Go.Proofs.Ytfiomckebicphaa.Pure
open Go Go.RowKit Go.Proofs.Ytfiomckebicphaa.X Go.Proofs.YtfiomckebicphaaW.PrintWords Go.Proofs.YtfiomckebicphaaW.PrintLast

theorem great_any (x : Int) : ∃ b, stipendlaw02_great.f x = some b := by
  unfold stipendlaw02_great.f
  split
  · exact ⟨_, rfl⟩
  · exact ⟨_, rfl⟩
theorem cmp_any {n d m c : Int} (hn : -9223372036854775808 ≤ n ∧ n ≤ 9223372036854775807) (hm : -9223372036854775808 ≤ m ∧ m ≤ 9223372036854775807) (hd : d ≤ 9223372036854775807) (hc : c ≤ 9223372036854775807) {k : Nat} (hk : 5 ≤ k) :
    frac_Compare.f k n d m c = some (if 0 < d ∧ 0 < c then (sgn (n * c) (m * d), 0) else (0, 1)) := by
  by_cases h : 0 < d ∧ 0 < c
  · rw [if_pos h]
    exact cmp_ok hn hm ⟨h.1, hd⟩ ⟨h.2, hc⟩ hk
  · rw [if_neg h]
    exact cmp_bad (by omega) hk
theorem sgn_neg (x y : Int) : sgn x y < 0 ↔ x < y := by
  unfold sgn
  repeat' split
  all_goals omega
theorem trans_lt {a d b e c f : Int} (hd : 0 < d) (he : 0 < e) (hf : 0 < f) (h1 : a * e < b * d) (h2 : b * f < c * e) : a * f < c * d := by
  have s1 := Int.mul_lt_mul_of_pos_right h1 hf
  have s2 := Int.mul_lt_mul_of_pos_right h2 hd
  have e1 : a * e * f = a * f * e := by rw [Int.mul_assoc, Int.mul_comm e f, ← Int.mul_assoc]
  have e2 : b * d * f = b * f * d := by rw [Int.mul_assoc, Int.mul_comm d f, ← Int.mul_assoc]
  have e3 : c * e * d = c * d * e := by rw [Int.mul_assoc, Int.mul_comm e d, ← Int.mul_assoc]
  rw [e1, e2] at s1
  rw [e3] at s2
  exact Int.lt_of_mul_lt_mul_right (Int.lt_trans s1 s2) (by omega)
structure Bounds (a d b e c f : Int) : Prop where
  ha : -9223372036854775808 ≤ a ∧ a ≤ 9223372036854775807
  hd : 0 < d ∧ d ≤ 9223372036854775807
  hb : -9223372036854775808 ≤ b ∧ b ≤ 9223372036854775807
  he : 0 < e ∧ e ≤ 9223372036854775807
  hc : -9223372036854775808 ≤ c ∧ c ≤ 9223372036854775807
  hf : f ≤ 9223372036854775807
theorem compares_end {a d b e c f x : Int} (h : Bounds a d b e c f) (hx : x = sgn (a * e) (b * d)) {k : Nat} (hk : 5 ≤ k) :
    ((frac_Compare.f k b e c f).bind fun bt189 => ((frac_Compare.f k a d c f).bind fun bt191 => (if bt189.2 = 0 then (if x < 0 then (if bt189.1 < 0 then (some (decide (bt191.1 < 0))) else (some true)) else (some true)) else (some true)))) = some true := by
  rw [cmp_any h.hb h.hc h.he.2 h.hf hk, cmp_any h.ha h.hc h.hd.2 h.hf hk]
  simp only [Option.bind_some]
  by_cases hf : 0 < f
  · have h1 : 0 < e ∧ 0 < f := ⟨h.he.1, hf⟩
    have h2 : 0 < d ∧ 0 < f := ⟨h.hd.1, hf⟩
    simp only [h1, h2, and_self, if_true]
    by_cases hx0 : x < 0
    · rw [if_pos hx0]
      by_cases hz : sgn (b * f) (c * e) < 0
      · rw [if_pos hz]
        rw [hx, sgn_neg] at hx0
        rw [sgn_neg] at hz
        rw [show decide (sgn (a * f) (c * d) < 0) = true by simp [sgn_neg]; exact trans_lt h.hd.1 h.he.1 hf hx0 hz]
      · rw [if_neg hz]
    · rw [if_neg hx0]
  · have h1 : ¬ (0 < e ∧ 0 < f) := fun h => hf h.2
    simp [h1]
theorem compares_j2 {a d b e c f x : Int} (h : Bounds a d b e c f) (hx : x = sgn (a * e) (b * d)) (v : Bool) (hv : v = true → (wrap64 (a * e) = a * e ∧ wrap64 (b * d) = b * d)) {k : Nat} (hk : 10 ≤ k) :
    stipendlaw02_FracCompares.j2 k x v a d b e c f = some true := by
  obtain ⟨k, rfl⟩ : ∃ n, k = n + 1 + 1 := ⟨k - 2, by omega⟩
  have c1 := compares_end h hx (k := k + 1) (by omega)
  have c2 := compares_end h hx (k := k) (by omega)
  generalize hK : k + 1 = K at c1
  simp only [stipendlaw02_FracCompares.j2]
  subst hK
  cases v with
  | false =>
    simp only [Bool.false_eq_true, if_false]
    exact c1
  | true =>
    obtain ⟨w1, w2⟩ := hv rfl
    rw [w1, w2]
    have e1 : (decide (x < 0) != decide (a * e < b * d)) = false := by
      have : decide (x < 0) = decide (a * e < b * d) := by rw [hx]; simp [sgn_neg]
      rw [this]; simp
    have e2 : (decide (x > 0) != decide (a * e > b * d)) = false := by
      have : decide (x > 0) = decide (a * e > b * d) := by
        rw [hx]
        unfold sgn
        simp only [decide_eq_decide]
        repeat' split
        all_goals omega
      rw [this]; simp
    simp only [if_true]
    rw [e1, e2]
    simp only [Bool.false_eq_true, if_false, stipendlaw02_FracCompares.j3]
    exact c2
theorem small_mul {a e : Int} (ha : -1099511627776 < a ∧ a < 1099511627776) (he : 0 < e ∧ e < 1048576) : wrap64 (a * e) = a * e := by
  apply w64
  have h1 : a * e ≤ 1099511627776 * e := Int.mul_le_mul_of_nonneg_right (by omega) (by omega)
  have h2 : -1099511627776 * e ≤ a * e := Int.mul_le_mul_of_nonneg_right (by omega) (by omega)
  omega
theorem compares_j1 {a d b e c f x n d1 g : Int} (h : Bounds a d b e c f) (hx : x = sgn (a * e) (b * d)) (ha : a = g * n) (hd : d = g * d1) (hn : -9223372036854775808 ≤ n ∧ n ≤ 9223372036854775807) (hd1 : 0 < d1 ∧ d1 ≤ 9223372036854775807) {k : Nat} (hk : 20 ≤ k) (v : Bool) (hv : v = false) :
    stipendlaw02_FracCompares.j1 k x n d1 v a d b e c f = some true := by
  subst hv
  obtain ⟨k, rfl⟩ : ∃ n, k = n + 1 := ⟨k - 1, by omega⟩
  have j2 := fun v hv => compares_j2 h hx v hv (k := k) (by omega)
  have j2f := j2 false (fun z => by cases z)
  simp only [stipendlaw02_FracCompares.j1, Bool.false_eq_true, if_false]
  rw [cmp_ok hn h.ha hd1 h.hd (by omega)]
  simp only [Option.bind_some]
  have e0 : n * d = a * d1 := by rw [ha, hd, Int.mul_left_comm, Int.mul_assoc]
  have s0 : sgn (n * d) (a * d1) = 0 := by
    rw [e0]
    unfold sgn
    simp
  rw [s0]
  simp only [if_true]
  obtain ⟨g1, hg1⟩ := great_any a
  obtain ⟨g2, hg2⟩ := great_any b
  rw [hg1, hg2]
  simp only [Option.bind_some]
  cases g1 with
  | true => simp only [if_true]; exact j2f
  | false =>
    cases g2 with
    | true => simp only [Bool.false_eq_true, if_false, if_true]; exact j2f
    | false =>
      simp only [Bool.false_eq_true, if_false]
      by_cases q1 : d < 1048576
      · rw [if_pos q1]
        by_cases q2 : e < 1048576
        · rw [if_pos q2]
          by_cases q3 : a < 1099511627776
          · rw [if_pos q3]
            by_cases q4 : a > -1099511627776
            · rw [if_pos q4]
              by_cases q5 : b < 1099511627776
              · rw [if_pos q5]
                exact j2 _ (fun z => ⟨small_mul ⟨by omega, q3⟩ ⟨h.he.1, q2⟩, small_mul ⟨by simpa using z, q5⟩ ⟨h.hd.1, q1⟩⟩)
              · rw [if_neg q5]; exact j2f
            · rw [if_neg q4]; exact j2f
          · rw [if_neg q3]; exact j2f
        · rw [if_neg q2]; exact j2f
      · rw [if_neg q1]; exact j2f
theorem FracCompares : stipendlaw02_FracCompares.Pure := by
  intro a d b e c f ha hd hb he hc hf
  have ha := wf64 ha
  have hd := wf64 hd
  have hb := wf64 hb
  have he := wf64 he
  have hc := wf64 hc
  have hf := wf64 hf
  obtain ⟨K, hK⟩ : ∃ K : Nat, K = 9223372036854776000 := ⟨_, rfl⟩
  refine ⟨K + 1, ?_⟩
  have hp : stipendlaw02_parts.f (K + 1) = some true := by
    rw [show K + 1 = (K - 69) + 70 by omega]
    exact parts_ok _
  unfold stipendlaw02_FracCompares.f
  rw [hp]
  simp only [Option.bind_some, if_true]
  rw [cmp_any ha hb hd.2 he.2 (by omega)]
  simp only [Option.bind_some]
  by_cases hpos : 0 < d ∧ 0 < e
  · rw [if_neg (by omega), show decide (e ≤ 0) = false by simp; omega]
    simp only [hpos, and_self, if_true, stipendlaw02_FracCompares.j0, Bool.false_eq_true, if_false]
    obtain ⟨n, d1, g1, l1, gp1, na, da, dp1, db1, nb1, cop1⟩ := low_ok (n := a) (d := d) ha ⟨hpos.1, hd.2⟩ (k := K) (by omega)
    obtain ⟨m, e1, g2, l2, gp2, mb, eb, ep1, eb1, mb1, cop2⟩ := low_ok (n := b) (d := e) hb ⟨hpos.2, he.2⟩ (k := K) (by omega)
    have hB : Bounds a d b e c f := ⟨ha, ⟨hpos.1, hd.2⟩, hb, ⟨hpos.2, he.2⟩, hc, hf.2⟩
    rw [cmp_ok hb ha ⟨hpos.2, he.2⟩ ⟨hpos.1, hd.2⟩ (by omega), l1, l2]
    simp only [Option.bind_some]
    have w0 : wrap64 (wrap64 (wrap64 (0 + 0) + 0) + 0) = 0 := by
      rw [w64 (x := 0 + 0) (by omega), w64 (x := 0 + 0 + 0) (by omega), w64 (by omega)]; rfl
    rw [w0]
    simp only [if_true]
    have hs : sgn (a * e) (b * d) = wrap64 (-sgn (b * d) (a * e)) := by
      unfold sgn
      rw [w64 (by split; omega; split <;> omega)]
      repeat' split
      all_goals omega
    have hs1 : -1 ≤ sgn (a * e) (b * d) ∧ sgn (a * e) (b * d) ≤ 1 := by
      unfold sgn
      repeat' split
      all_goals omega
    rw [if_pos hs, if_neg (by omega), if_neg (by omega), if_neg (by omega), if_neg (by omega)]
    have hs0 : sgn (a * e) (b * d) = 0 ↔ a * e = b * d := by
      unfold sgn
      repeat' split
      all_goals omega
    have p1 : a * e = g1 * g2 * (n * e1) := by
      rw [na, eb, Int.mul_assoc, Int.mul_left_comm n g2 e1, ← Int.mul_assoc]
    have p2 : b * d = g1 * g2 * (m * d1) := by
      rw [mb, da, Int.mul_assoc, Int.mul_left_comm m g1 d1, ← Int.mul_assoc, Int.mul_comm g2 g1]
    have gg : 0 < g1 * g2 := Int.mul_pos gp1 gp2
    have j1 := fun v hv => compares_j1 hB rfl na da nb1 ⟨dp1, db1⟩ (k := K) (by omega) v hv
    by_cases hnm : n = m
    · rw [if_pos hnm]
      apply j1
      have : (sgn (a * e) (b * d) == 0) = (d1 == e1) := by
        rw [Bool.eq_iff_iff]
        simp only [beq_iff_eq]
        rw [hs0]
        constructor
        · intro h
          rw [p1, p2] at h
          exact (low_eq dp1 ep1 cop1 cop2 (Int.eq_of_mul_eq_mul_left (by omega) h)).2
        · intro h
          rw [p1, p2, hnm, h]
      rw [this]
      simp
    · rw [if_neg hnm]
      apply j1
      have : ¬ sgn (a * e) (b * d) = 0 := by
        rw [hs0]
        intro h
        rw [p1, p2] at h
        exact hnm (low_eq dp1 ep1 cop1 cop2 (Int.eq_of_mul_eq_mul_left (by omega) h)).1
      rw [show (sgn (a * e) (b * d) == 0) = false by simpa using this]
      rfl
  · simp only [hpos, if_false]
    by_cases h1 : d ≤ 0
    · rw [if_pos h1]; simp [stipendlaw02_FracCompares.j0]
    · rw [if_neg h1, show decide (e ≤ 0) = true by simp; omega]; simp [stipendlaw02_FracCompares.j0]

end Go.Proofs.Ytfiomckebicphaa.Pure
