/- The law DateOrder of the package stipendlaw03 holds for every input: of two days that of the lesser number is first; a day has the order of its text; leap years come every fourth year but for hundreds. No condition. -/
import Derived.Test.YthfkfageehkhcaaX0
import Derived.Test.YthfkfageehkhcaaX29
import Derived.Test.YthfkfageehkhcaaX30
import Derived.Test.YthfkfageehkhcaaMText
namespace Go.Proofs.Ythfkfageehkhcaa.Pure
open Go Go.RowKit Go.Proofs.Ythfkfageehkhcaa.X Go.Proofs.YthfkfageehkhcaaW.PrintWords Go.Proofs.YthfkfageehkhcaaW.PrintLast

/-- Is a day ahead of another one, by year, month and day? -/
def lexlt (y m d y' m' d' : Int) : Prop := y < y' ∨ y = y' ∧ (m < m' ∨ m = m' ∧ d < d')
theorem cmp_ok (y m d y' m' d' : Int) : ∃ c, date_Compare.f y m d y' m' d' = some c ∧ ((c = -1 ∧ lexlt y m d y' m' d') ∨ (c = 0 ∧ y = y' ∧ m = m' ∧ d = d') ∨ (c = 1 ∧ lexlt y' m' d' y m d)) := by
  unfold date_Compare.f lexlt
  repeat' split
  all_goals (refine ⟨_, rfl, ?_⟩)
  all_goals omega
theorem less_cons (a b : Int) (xs ys : List UInt8) : Op.bytesLess (dg a :: xs) (dg b :: ys) = if a % 10 < b % 10 then true else if a % 10 = b % 10 then Op.bytesLess xs ys else false := by
  have ha := dg_nat a
  have hb := dg_nat b
  simp only [Op.bytesLess]
  by_cases h1 : a % 10 < b % 10
  · rw [if_pos h1, show decide (dg a < dg b) = true by simp [UInt8.lt_iff_toNat_lt]; omega]
    simp
  · rw [if_neg h1, show decide (dg a < dg b) = false by simp [UInt8.lt_iff_toNat_lt]; omega]
    by_cases h2 : a % 10 = b % 10
    · rw [if_pos h2, show (dg a == dg b) = true by simp; apply UInt8.toNat_inj.1; omega]
      simp
    · rw [if_neg h2, show (dg a == dg b) = false by simp; intro h; rw [h] at ha; omega]
      simp
theorem less_dash (xs ys : List UInt8) : Op.bytesLess (45 :: xs) (45 :: ys) = Op.bytesLess xs ys := by
  simp [Op.bytesLess]
theorem txt_less {y m d y' m' d' : Int} (h : ok y m d) (h' : ok y' m' d') : Op.bytesLess (txt y m d).toList (txt y' m' d').toList = true ↔ lexlt y m d y' m' d' := by
  have hb := ok_bd h
  have hb' := ok_bd h'
  rw [ByteArray.toList_eq, ByteArray.toList_eq]
  unfold lexlt
  show Op.bytesLess [dg (y / 1000), dg (y / 100), dg (y / 10), dg y, 45, dg (m / 10), dg m, 45, dg (d / 10), dg d] [dg (y' / 1000), dg (y' / 100), dg (y' / 10), dg y', 45, dg (m' / 10), dg m', 45, dg (d' / 10), dg d'] = true ↔ _
  simp only [less_cons, less_dash]
  have hd : (if d / 10 % 10 < d' / 10 % 10 then true else if d / 10 % 10 = d' / 10 % 10 then (if d % 10 < d' % 10 then true else if d % 10 = d' % 10 then Op.bytesLess [] [] else false) else false) = decide (d < d') := by
    simp only [Op.bytesLess]
    repeat' split
    all_goals simp
    all_goals omega
  rw [hd]
  have hm : (if m / 10 % 10 < m' / 10 % 10 then true else if m / 10 % 10 = m' / 10 % 10 then (if m % 10 < m' % 10 then true else if m % 10 = m' % 10 then decide (d < d') else false) else false) = decide (m < m' ∨ m = m' ∧ d < d') := by
    repeat' split
    all_goals simp
    all_goals (first | omega | (rw [Bool.eq_iff_iff]; simp; omega))
  rw [hm]
  have hy : (if y / 1000 % 10 < y' / 1000 % 10 then true else if y / 1000 % 10 = y' / 1000 % 10 then (if y / 100 % 10 < y' / 100 % 10 then true else if y / 100 % 10 = y' / 100 % 10 then (if y / 10 % 10 < y' / 10 % 10 then true else if y / 10 % 10 = y' / 10 % 10 then (if y % 10 < y' % 10 then true else if y % 10 = y' % 10 then decide (m < m' ∨ m = m' ∧ d < d') else false) else false) else false) else false) = decide (y < y' ∨ y = y' ∧ (m < m' ∨ m = m' ∧ d < d')) := by
    by_cases hq : m < m' ∨ m = m' ∧ d < d'
    · simp only [hq, decide_true, and_true]
      repeat' split
      all_goals simp
      all_goals (first | omega | (rw [Bool.eq_iff_iff]; simp; omega))
    · simp only [hq, decide_false, and_false, or_false]
      repeat' split
      all_goals simp
      all_goals (first | omega | (rw [Bool.eq_iff_iff]; simp; omega))
  rw [hy]
  simp
theorem order_j1 {c y m d y' m' d' : Int} (hc : (c = -1 ∧ lexlt y m d y' m' d') ∨ (c = 0 ∧ y = y' ∧ m = m' ∧ d = d') ∨ (c = 1 ∧ lexlt y' m' d' y m d)) {k : Nat} (hk : 5 ≤ k) : stipendlaw03_DateOrder.j1 k c false y m d y' m' d' = some true := by
  obtain ⟨k, rfl⟩ : ∃ n, k = n + 1 := ⟨k - 1, by omega⟩
  simp only [stipendlaw03_DateOrder.j1, Bool.false_eq_true, if_false]
  rw [between_ok (by omega)]
  by_cases h : ok y m d
  · by_cases h' : ok y' m' d'
    · simp only [h, h', and_self, if_true, Option.bind_some]
      have hl := txt_less h h'
      have c1 : (decide (c < 0) == decide (num y' m' d' - num y m d > 0)) = true := by
        rcases hc with ⟨rfl, hx⟩ | ⟨rfl, rfl, rfl, rfl⟩ | ⟨rfl, hx⟩
        · have := num_lt h h' hx
          rw [show decide (num y' m' d' - num y m d > 0) = true by simp; omega]; rfl
        · simp
        · have := num_lt h' h hx
          rw [show decide (num y' m' d' - num y m d > 0) = false by simp; omega]; rfl
      have c2 : ((c == 0) == (num y' m' d' - num y m d == 0)) = true := by
        rcases hc with ⟨rfl, hx⟩ | ⟨rfl, rfl, rfl, rfl⟩ | ⟨rfl, hx⟩
        · have := num_lt h h' hx
          rw [show (num y' m' d' - num y m d == 0) = false by simp; omega]; rfl
        · simp
        · have := num_lt h' h hx
          rw [show (num y' m' d' - num y m d == 0) = false by simp; omega]; rfl
      rw [if_pos c1, if_pos c2, text_ok h (by omega), text_ok h' (by omega)]
      simp only [Option.bind_some]
      have c3 : Op.bytesLess (txt y m d).toList (txt y' m' d').toList = decide (c < 0) := by
        rw [Bool.eq_iff_iff, hl]
        unfold lexlt at *
        simp only [decide_eq_true_eq]
        omega
      rw [c3]
      simp
    · simp only [h, h', and_false, if_false, Option.bind_some]
      rw [if_neg (by omega), rright_ok, rright_ok]
      simp [h, h']
  · simp only [h, false_and, if_false, Option.bind_some]
    rw [if_neg (by omega), rright_ok]
    simp [h]
theorem DateOrder : stipendlaw03_DateOrder.Pure := by
  intro y m d y' m' d' z _ _ _ _ _ _ _
  refine ⟨58 + 1, ?_⟩
  unfold stipendlaw03_DateOrder.f
  rw [days_ok (by omega)]
  simp only [Option.bind_some, if_true]
  obtain ⟨c, hc, hcc⟩ := cmp_ok y m d y' m' d'
  obtain ⟨e, he, hee⟩ := cmp_ok y' m' d' y m d
  rw [hc, he]
  simp only [Option.bind_some]
  have hce : c = -e := by
    unfold lexlt at *
    omega
  have hw : wrap64 (-e) = -e := w64 (by omega)
  have h0 : ((c == 0) != (y == y' && (m == m' && (d == d')))) = false := by
    have : (c == 0) = (y == y' && (m == m' && (d == d'))) := by
      rw [Bool.eq_iff_iff]
      unfold lexlt at *
      simp only [beq_iff_eq, Bool.and_eq_true]
      omega
    rw [this]
    simp
  rw [hw, if_pos hce, h0]
  have hj : stipendlaw03_DateOrder.j1 58 c false y m d y' m' d' = some true := order_j1 hcc (by omega)
  generalize 58 = K at hj
  simp only [stipendlaw03_DateOrder.j0, Bool.false_eq_true, if_false]
  by_cases h1 : z > 0
  · rw [if_pos h1]
    by_cases h2 : z < 10000
    · have h01 := lp_01 z
      rw [if_pos h2, leap_ok (by omega), long_ok (by omega)]
      simp only [Option.bind_some]
      have : (decide (lp z = 1) != (365 + lp z == 366)) = false := by
        rcases h01 with h | h <;> simp [h]
      rw [this]
      exact hj
    · rw [if_neg h2]
      exact hj
  · rw [if_neg h1]
    exact hj

end Go.Proofs.Ythfkfageehkhcaa.Pure
