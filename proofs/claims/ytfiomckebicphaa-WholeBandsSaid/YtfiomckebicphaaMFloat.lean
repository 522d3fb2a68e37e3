/- Plain facts on floats: the word of a whole number from 0 up to 2 ^ 53 stands for just that number, and sums and products of such words are exact as long as they stay there. -/
import Derived.Laws.FloatArith
namespace Go.Proofs.Ytfiomckebicphaa.Flt
open Ieee

theorem log2_up (m : Nat) (hm : m ≠ 0) : ∀ k : Nat, (m * 2 ^ k).log2 = m.log2 + k := by
  intro k
  induction k with
  | zero => simp
  | succ k ih =>
    have h0 : m * 2 ^ k ≠ 0 := Nat.mul_ne_zero hm (Nat.pos_iff_ne_zero.mp (Nat.two_pow_pos k))
    rw [Nat.pow_succ, ← Nat.mul_assoc, Nat.mul_comm _ 2, Nat.log2_two_mul h0, ih]
    omega
theorem pow_cancel {a b k : Nat} (h : a * 2 ^ k = b * 2 ^ k) : a = b := Nat.eq_of_mul_eq_mul_right (Nat.two_pow_pos k) h
/-- A datum that stands for the whole number n. -/
def IsN (d : Datum) (n : Nat) : Prop := ∃ (m : Nat) (p : Int) (B : Nat), d = .number false m p ∧ 0 ≤ p + B ∧ m * 2 ^ (p + B).toNat = n * 2 ^ B
/-- The word of a whole number. -/
def F (n : Nat) : Nat := double.nearest false n 0
theorem isN_self (n : Nat) : IsN (.number false n 0) n := ⟨n, 0, 0, rfl, by omega, by simp⟩
theorem cut_even_zero (x : Nat) : Toward.even.cut false x 0 = x := by
  simp [Toward.cut, Nat.mod_one]
theorem cut_even_exact (x t : Nat) (ht : t ≤ x.log2) (hd : x % 2 ^ t = 0) : Toward.even.cut false x t = x / 2 ^ t := by
  unfold Toward.cut
  have hm : min t (x.log2 + 2) = t := by omega
  have hg : 1 <<< t = 2 ^ t := by rw [Nat.shiftLeft_eq, Nat.one_mul]
  have hp := Nat.two_pow_pos t
  simp only [hm, hg, hd]
  have h1 : decide (2 ^ t < 2 * 0) = false := by simp
  have h2 : (2 ^ t == 2 * 0) = false := by simp
  rw [h1, h2]
  simp
/-- The last digit that is kept, and what is kept, are told by the number alone. -/
theorem kept {m n B : Nat} {p : Int} (hn : n ≠ 0) (hn2 : n ≤ 2 ^ 53) (hp : 0 ≤ p + B) (h : m * 2 ^ (p + B).toNat = n * 2 ^ B) :
    m ≠ 0 ∧ max (p + m.log2 - (52 : Nat)) double.leastPlace = n.log2 - 52 ∧
    Toward.even.cut false (m <<< (p - ((n.log2 : Int) - 52)).toNat) ((n.log2 : Int) - 52 - p).toNat * 2 ^ n.log2 = n * 2 ^ 52 := by
  have hm : m ≠ 0 := by
    intro h0
    rw [h0, Nat.zero_mul] at h
    have := Nat.mul_ne_zero hn (Nat.pos_iff_ne_zero.mp (Nat.two_pow_pos B))
    omega
  have hlog : m.log2 + (p + B).toNat = n.log2 + B := by rw [← log2_up m hm, ← log2_up n hn, h]
  have hL : n.log2 ≤ 53 := by
    have := (Nat.log2_lt hn (k := 54)).mpr (by omega)
    omega
  have hpe : p = (n.log2 : Int) - m.log2 := by omega
  have hlast : max (p + m.log2 - (52 : Nat)) double.leastPlace = n.log2 - 52 := by
    have : double.leastPlace = -1074 := by decide
    rw [this]
    omega
  refine ⟨hm, hlast, ?_⟩
  by_cases he : m.log2 ≤ 52
  · rw [show ((n.log2 : Int) - 52 - p).toNat = 0 by omega, cut_even_zero, Nat.shiftLeft_eq, show (p - ((n.log2 : Int) - 52)).toNat = 52 - m.log2 by omega]
    refine pow_cancel (k := B) ?_
    rw [Nat.mul_assoc, Nat.mul_assoc, ← Nat.pow_add, ← Nat.pow_add, show 52 - m.log2 + (n.log2 + B) = (p + B).toNat + 52 by omega, Nat.pow_add, ← Nat.mul_assoc, h,
      Nat.mul_assoc, Nat.mul_assoc, Nat.mul_comm (2 ^ B)]
  · have hme : m = n * 2 ^ (m.log2 - n.log2) := by
      refine pow_cancel (k := (p + B).toNat) ?_
      rw [h, Nat.mul_assoc, ← Nat.pow_add, show m.log2 - n.log2 + (p + B).toNat = B by omega]
    rw [show (p - ((n.log2 : Int) - 52)).toNat = 0 by omega, Nat.shiftLeft_zero, show ((n.log2 : Int) - 52 - p).toNat = m.log2 - 52 by omega]
    by_cases h52 : n.log2 ≤ 52
    · have hm2 : m = n * 2 ^ (52 - n.log2) * 2 ^ (m.log2 - 52) := by
        rw [Nat.mul_assoc, ← Nat.pow_add, show 52 - n.log2 + (m.log2 - 52) = m.log2 - n.log2 by omega]
        exact hme
      have hdiv : m % 2 ^ (m.log2 - 52) = 0 := by
        generalize 2 ^ (m.log2 - 52) = D at *
        rw [hm2]
        exact Nat.mul_mod_left _ _
      have hq : m / 2 ^ (m.log2 - 52) = n * 2 ^ (52 - n.log2) := by
        have hD := Nat.two_pow_pos (m.log2 - 52)
        generalize 2 ^ (m.log2 - 52) = D at *
        rw [hm2]
        exact Nat.mul_div_cancel _ hD
      rw [cut_even_exact _ _ (by omega) hdiv, hq, Nat.mul_assoc, ← Nat.pow_add, show 52 - n.log2 + n.log2 = 52 by omega]
    · have hn53 : n = 2 ^ 53 := by
        have := Nat.log2_self_le hn
        rw [show n.log2 = 53 by omega] at this
        omega
      have hl53 : n.log2 = 53 := by omega
      have hm2 : m = 2 ^ 52 * 2 ^ (m.log2 - 52) := by
        rw [← Nat.pow_add, show 52 + (m.log2 - 52) = 53 + (m.log2 - n.log2) by omega, Nat.pow_add, ← hn53]
        exact hme
      have hdiv : m % 2 ^ (m.log2 - 52) = 0 := by
        generalize 2 ^ (m.log2 - 52) = D at *
        rw [hm2]
        exact Nat.mul_mod_left _ _
      have hq : m / 2 ^ (m.log2 - 52) = 2 ^ 52 := by
        have hD := Nat.two_pow_pos (m.log2 - 52)
        generalize 2 ^ (m.log2 - 52) = D at *
        rw [hm2]
        exact Nat.mul_div_cancel _ hD
      rw [cut_even_exact _ _ (by omega) hdiv, hq, hl53, hn53]
theorem write_N {d : Datum} {n : Nat} (h : IsN d n) (hn2 : n ≤ 2 ^ 53) : double.write d = F n := by
  obtain ⟨m, p, B, rfl, hp, h⟩ := h
  unfold F
  show double.nearest false m p = _
  by_cases hn : n = 0
  · subst hn
    have hm : m = 0 := by
      rw [Nat.zero_mul] at h
      exact (Nat.mul_eq_zero.mp h).resolve_right (Nat.pos_iff_ne_zero.mp (Nat.two_pow_pos _))
    subst hm
    simp [Format.nearest]
  · obtain ⟨k1, k2, k3⟩ := kept hn hn2 hp h
    obtain ⟨j1, j2, j3⟩ := kept (m := n) (p := 0) (B := 0) hn hn2 (by omega) (by simp)
    unfold Format.nearest
    rw [if_neg k1, if_neg j1]
    simp only [show double.fractionBits = 52 from rfl]
    rw [k2, j2]
    rw [pow_cancel (k3.trans j3.symm)]
theorem read_F {n : Nat} (hn2 : n ≤ 2 ^ 53) : IsN (double.read (F n)) n := by
  by_cases hn : n = 0
  · subst hn
    obtain ⟨B, hB⟩ : ∃ B : Nat, 1074 ≤ B := ⟨1074, by omega⟩
    have hl : double.leastPlace = -1074 := by decide
    exact ⟨0, double.leastPlace, B, by decide, by omega, by rw [Nat.zero_mul, Nat.zero_mul]⟩
  · obtain ⟨j1, j2, j3⟩ := kept (m := n) (p := 0) (B := 0) hn hn2 (by omega) (by simp)
    have hL : n.log2 ≤ 53 := by
      have := (Nat.log2_lt hn (k := 54)).mpr (by omega)
      omega
    have hlo := Nat.log2_self_le hn
    have hhi := Nat.lt_log2_self (n := n)
    have hF : F n = double.word false (min (((n.log2 : Int) - 52 - double.leastPlace).toNat * double.binade + Toward.even.cut false (n <<< ((0 : Int) - ((n.log2 : Int) - 52)).toNat) ((n.log2 : Int) - 52 - 0).toNat) double.infRung) := by
      unfold F Format.nearest
      rw [if_neg j1]
      simp only [show double.fractionBits = 52 from rfl]
      rw [j2]
    rw [hF]
    generalize hk : Toward.even.cut false (n <<< ((0 : Int) - ((n.log2 : Int) - 52)).toNat) ((n.log2 : Int) - 52 - 0).toNat = k at j3
    have hk1 : 2 ^ 52 ≤ k := by
      refine Nat.le_of_mul_le_mul_right ?_ (Nat.two_pow_pos n.log2)
      rw [j3, Nat.mul_comm]
      exact Nat.mul_le_mul_right _ hlo
    have hk2 : k < 2 ^ 53 := by
      refine Nat.lt_of_mul_lt_mul_right (a := 2 ^ n.log2) ?_
      rw [j3]
      have : n * 2 ^ 52 < 2 ^ (n.log2 + 1) * 2 ^ 52 := Nat.mul_lt_mul_of_pos_right hhi (Nat.two_pow_pos 52)
      rw [← Nat.pow_add] at this
      rw [← Nat.pow_add, show 53 + n.log2 = n.log2 + 1 + 52 by omega]
      exact this
    have hlp : double.leastPlace = -1074 := by decide
    have hbi : double.binade = 2 ^ 52 := rfl
    have hinf : double.infRung = 2047 * 2 ^ 52 := by decide
    have hsw : double.signWeight = 2 ^ 63 := rfl
    rw [hlp, hbi, hinf, Nat.min_eq_left (by omega)]
    have hr : double.word false (((n.log2 : Int) - 52 - -1074).toNat * 2 ^ 52 + k) = ((n.log2 : Int) - 52 - -1074).toNat * 2 ^ 52 + k := rfl
    rw [hr]
    generalize hrr : ((n.log2 : Int) - 52 - -1074).toNat * 2 ^ 52 + k = r
    have hread : double.read r = .number false k ((n.log2 : Int) - 52) := by
      unfold Format.read
      simp only [hsw, hbi, hinf, hlp]
      rw [show r / 2 ^ 63 = 0 by omega, show r % 2 ^ 63 = r by omega]
      simp only [Nat.zero_mod]
      rw [if_neg (by omega), if_pos (by omega)]
      rw [show (0 == 1) = false by decide, show 2 ^ 52 + r % 2 ^ 52 = k by omega]
      congr 1
      omega
    rw [hread]
    refine ⟨k, (n.log2 : Int) - 52, 52, rfl, by omega, ?_⟩
    rw [show ((n.log2 : Int) - 52 + (52 : Nat)).toNat = n.log2 by omega, j3]
theorem lift {m n B C : Nat} {p : Int} (hp : 0 ≤ p + B) (h : m * 2 ^ (p + B).toNat = n * 2 ^ B) (hC : B ≤ C) : m * 2 ^ (p + C).toNat = n * 2 ^ C := by
  rw [show (p + C).toNat = (p + B).toNat + (C - B) by omega, Nat.pow_add, ← Nat.mul_assoc, h, Nat.mul_assoc, ← Nat.pow_add, show B + (C - B) = C by omega]
/-- Two whole numbers over one place. -/
theorem over {m n a b B C : Nat} {i j : Int} (hi : 0 ≤ i + B) (h : m * 2 ^ (i + B).toNat = a * 2 ^ B) (hj : 0 ≤ j + C) (h' : n * 2 ^ (j + C).toNat = b * 2 ^ C) :
    0 ≤ min i j + (B + C : Nat) ∧ m * 2 ^ (i - min i j).toNat * 2 ^ (min i j + (B + C : Nat)).toNat = a * 2 ^ (B + C) ∧ n * 2 ^ (j - min i j).toNat * 2 ^ (min i j + (B + C : Nat)).toNat = b * 2 ^ (B + C) := by
  refine ⟨by omega, ?_, ?_⟩
  · rw [Nat.mul_assoc, ← Nat.pow_add, show (i - min i j).toNat + (min i j + (B + C : Nat)).toNat = (i + (B + C : Nat)).toNat by omega]
    exact lift hi h (by omega)
  · rw [Nat.mul_assoc, ← Nat.pow_add, show (j - min i j).toNat + (min i j + (B + C : Nat)).toNat = (j + (B + C : Nat)).toNat by omega]
    exact lift hj h' (by omega)
theorem sum_N {d e : Datum} {a b : Nat} (h : IsN d a) (h' : IsN e b) : ∃ r, d.sum e = some r ∧ IsN r (a + b) := by
  obtain ⟨m, i, B, rfl, hi, h⟩ := h
  obtain ⟨n, j, C, rfl, hj, h'⟩ := h'
  obtain ⟨o1, o2, o3⟩ := over hi h hj h'
  refine ⟨_, rfl, m * 2 ^ (i - min i j).toNat + n * 2 ^ (j - min i j).toNat, min i j, B + C, ?_, o1, ?_⟩
  · simp only [signed, Bool.false_eq_true, if_false, Nat.shiftLeft_eq, Bool.and_self]
    generalize m * 2 ^ (i - min i j).toNat = M
    generalize n * 2 ^ (j - min i j).toNat = N
    congr 1
    split
    · rfl
    · simp; omega
  · rw [Nat.add_mul, o2, o3, Nat.add_mul]
theorem sub_zero_N {d e : Datum} {a : Nat} (h : IsN d a) (h' : IsN e 0) : ∃ r, d.sum e.opposite = some r ∧ IsN r a := by
  obtain ⟨m, i, B, rfl, hi, h⟩ := h
  obtain ⟨n, j, C, rfl, hj, h'⟩ := h'
  obtain ⟨o1, o2, o3⟩ := over hi h hj h'
  have hn : n = 0 := by
    rw [Nat.zero_mul] at h'
    exact (Nat.mul_eq_zero.mp h').resolve_right (Nat.pos_iff_ne_zero.mp (Nat.two_pow_pos _))
  subst hn
  refine ⟨_, rfl, m * 2 ^ (i - min i j).toNat, min i j, B + C, ?_, o1, o2⟩
  simp only [signed, Bool.false_eq_true, if_false, Bool.not_false, if_true, Nat.shiftLeft_eq, Nat.zero_mul, Bool.and_true]
  generalize m * 2 ^ (i - min i j).toNat = M
  congr 1
  split
  · rfl
  · simp
theorem product_N {d e : Datum} {a b : Nat} (h : IsN d a) (h' : IsN e b) : ∃ r, d.product e = some r ∧ IsN r (a * b) := by
  obtain ⟨m, i, B, rfl, hi, h⟩ := h
  obtain ⟨n, j, C, rfl, hj, h'⟩ := h'
  refine ⟨_, rfl, m * n, i + j, B + C, rfl, by omega, ?_⟩
  rw [show (i + j + (B + C : Nat)).toNat = (i + B).toNat + (j + C).toNat by omega, Nat.pow_add, Nat.pow_add]
  calc m * n * (2 ^ (i + B).toNat * 2 ^ (j + C).toNat) = (m * 2 ^ (i + B).toNat) * (n * 2 ^ (j + C).toNat) := by ac_rfl
    _ = a * 2 ^ B * (b * 2 ^ C) := by rw [h, h']
    _ = a * b * (2 ^ B * 2 ^ C) := by ac_rfl
theorem order_N {d e : Datum} {a b : Nat} (h : IsN d a) (h' : IsN e b) : d.order e = some (compare a b) := by
  obtain ⟨m, i, B, rfl, hi, h⟩ := h
  obtain ⟨n, j, C, rfl, hj, h'⟩ := h'
  obtain ⟨o1, o2, o3⟩ := over hi h hj h'
  have hs := Nat.two_pow_pos (B + C)
  have ht := Nat.two_pow_pos (min i j + (B + C : Nat)).toNat
  simp only [Datum.order, signed, Bool.false_eq_true, if_false, Nat.shiftLeft_eq]
  generalize m * 2 ^ (i - min i j).toNat = M at *
  generalize n * 2 ^ (j - min i j).toNat = N at *
  generalize 2 ^ (min i j + (B + C : Nat)).toNat = T at *
  generalize 2 ^ (B + C) = S at *
  congr 1
  have hlt : (M : Int) < N ↔ a < b := by
    rw [Int.ofNat_lt, ← Nat.mul_lt_mul_right ht, o2, o3, Nat.mul_lt_mul_right hs]
  have heq : (M : Int) = N ↔ a = b := by
    constructor
    · intro hx
      have : M = N := by omega
      subst this
      exact Nat.eq_of_mul_eq_mul_right hs (o2.symm.trans o3)
    · intro hx
      subst hx
      have := Nat.eq_of_mul_eq_mul_right ht (o2.trans o3.symm)
      omega
  simp only [compare, compareOfLessAndEq, hlt, heq]
theorem order_neg {d : Datum} {a M : Nat} {q : Int} (h : IsN d a) (hM : M ≠ 0) : d.order (.number true M q) = some .gt := by
  obtain ⟨m, i, B, rfl, hi, h⟩ := h
  simp only [Datum.order, signed, Bool.false_eq_true, if_false, if_true, Nat.shiftLeft_eq]
  have hx : 0 < M * 2 ^ (q - min i q).toNat := Nat.mul_pos (Nat.pos_of_ne_zero hM) (Nat.two_pow_pos _)
  generalize M * 2 ^ (q - min i q).toNat = X at *
  generalize m * 2 ^ (i - min i q).toNat = Y at *
  congr 1
  simp only [compare, compareOfLessAndEq]
  rw [if_neg (by omega), if_neg (by omega)]
theorem cut_zero_exact (x t : Nat) (ht : t ≤ x.log2 + 2) : Toward.zero.cut false x t = x / 2 ^ t := by
  unfold Toward.cut
  have hm : min t (x.log2 + 2) = t := by omega
  have hg : 1 <<< t = 2 ^ t := by rw [Nat.shiftLeft_eq, Nat.one_mul]
  simp only [hm, hg]
  simp
theorem toInt_N {d : Datum} {a : Nat} (h : IsN d a) : d.toInt .zero = some (a : Int) := by
  obtain ⟨m, p, B, rfl, hp, h⟩ := h
  unfold Datum.toInt Datum.integral
  simp only [signed, Bool.false_eq_true, if_false, Nat.shiftLeft_eq, Nat.pow_zero, Nat.mul_one]
  congr 2
  by_cases h0 : 0 ≤ p
  · rw [show (-p).toNat = 0 by omega, cut_zero_exact _ _ (by omega), Nat.pow_zero, Nat.div_one]
    refine pow_cancel (k := B) ?_
    rw [Nat.mul_assoc, ← Nat.pow_add, show p.toNat + B = (p + B).toNat by omega, h]
  · rw [show p.toNat = 0 by omega, Nat.pow_zero, Nat.mul_one]
    have hm : m = a * 2 ^ (-p).toNat := by
      refine pow_cancel (k := (p + B).toNat) ?_
      rw [h, Nat.mul_assoc, ← Nat.pow_add, show (-p).toNat + (p + B).toNat = B by omega]
    have hq : m / 2 ^ (-p).toNat = a := by
      have hD := Nat.two_pow_pos (-p).toNat
      generalize 2 ^ (-p).toNat = D at *
      rw [hm]
      exact Nat.mul_div_cancel _ hD
    by_cases ha : a = 0
    · subst ha
      have : m = 0 := by rw [hm, Nat.zero_mul]
      subst this
      simp [Toward.cut]
    · rw [cut_zero_exact, hq]
      rw [hm, log2_up a ha]
      omega
theorem add_F {a b : Nat} (h : a + b ≤ 2 ^ 53) : double.add (F a) (F b) = some (F (a + b)) := by
  obtain ⟨r, h1, h2⟩ := sum_N (read_F (n := a) (by omega)) (read_F (n := b) (by omega))
  unfold Format.add
  rw [h1, Option.map_some, write_N h2 h]
theorem sub0_F {a : Nat} (h : a ≤ 2 ^ 53) : double.sub (F a) (F 0) = some (F a) := by
  obtain ⟨r, h1, h2⟩ := sub_zero_N (read_F (n := a) h) (read_F (n := 0) (by omega))
  unfold Format.sub
  rw [h1, Option.map_some, write_N h2 h]
theorem mul_F {a b : Nat} (ha : a ≤ 2 ^ 53) (hb : b ≤ 2 ^ 53) (h : a * b ≤ 2 ^ 53) : double.mul (F a) (F b) = some (F (a * b)) := by
  obtain ⟨r, h1, h2⟩ := product_N (read_F ha) (read_F hb)
  unfold Format.mul
  rw [h1, Option.map_some, write_N h2 h]
theorem order_F {a b : Nat} (ha : a ≤ 2 ^ 53) (hb : b ≤ 2 ^ 53) : double.order (F a) (F b) = some (compare a b) := order_N (read_F ha) (read_F hb)
theorem toInt_F {a : Nat} (ha : a ≤ 2 ^ 53) : (double.read (F a)).toInt .zero = some (a : Int) := toInt_N (read_F ha)
/-- Is a word from - 2 ^ 53 on? -/
theorem order_least {a : Nat} (ha : a ≤ 2 ^ 53) : double.order (F a) 14069245235905429504 = some .gt := by
  unfold Format.order
  rw [show double.read 14069245235905429504 = .number true (2 ^ 52) 1 by decide +kernel]
  exact order_neg (read_F ha) (by decide)
end Go.Proofs.Ytfiomckebicphaa.Flt
