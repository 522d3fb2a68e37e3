/- Plain facts on the functions Compare and Lowest of the package frac: which of two fractions is less, and a fraction's lowest terms. -/
import Derived.Test.YtfiomckebicphaaX0
import Derived.Test.YtfiomckebicphaaXbitsMul64
import Derived.Test.YtfiomckebicphaaXmoneyAbs
import Derived.Test.YtfiomckebicphaaXfracCompare
import Derived.Test.YtfiomckebicphaaXfracLowest
import Derived.Test.YtfiomckebicphaaMFrac
import Derived.Laws.Bits64b
namespace Go.Proofs.Ytfiomckebicphaa.Pure
open Go Go.RowKit Go.Proofs.Ytfiomckebicphaa.X Go.Proofs.YtfiomckebicphaaW.PrintWords Go.Proofs.YtfiomckebicphaaW.PrintLast

theorem u64w (x : Int) : IntKind.u64.wrap x = x % 18446744073709551616 := by simp [IntKind.wrap, IntKind.signed, IntKind.bits]
theorem and_low (x : Int) (h : 0 ≤ x ∧ x < 18446744073709551616) : Go.bits .and .u64 x 4294967295 = x % 4294967296 := by
  obtain ⟨n, rfl⟩ : ∃ n : Nat, x = n := ⟨x.toNat, by omega⟩
  have e := bits_and_u64_nat n 4294967295 (by omega) (by decide)
  have m := Nat.and_two_pow_sub_one_eq_mod n 32
  rw [show (2 : Nat) ^ 32 - 1 = 4294967295 from rfl, show (2 : Nat) ^ 32 = 4294967296 from rfl] at m
  rw [m] at e
  rw [show ((4294967295 : Nat) : Int) = 4294967295 from rfl] at e
  rw [e]
  omega
theorem mul_bd {a b A B : Int} (ha : 0 ≤ a ∧ a ≤ A) (hb : 0 ≤ b ∧ b ≤ B) : 0 ≤ a * b ∧ a * b ≤ A * B := by
  refine ⟨Int.mul_nonneg ha.1 hb.1, ?_⟩
  exact Int.le_trans (Int.mul_le_mul_of_nonneg_right ha.2 hb.1) (Int.mul_le_mul_of_nonneg_left hb.2 (by omega))
theorem mul64_ok {a b : Int} (ha : 0 ≤ a ∧ a < 18446744073709551616) (hb : 0 ≤ b ∧ b < 18446744073709551616) :
    bits_Mul64.f a b = some (a * b / 18446744073709551616, a * b % 18446744073709551616) := by
  unfold bits_Mul64.f
  rw [and_low a ha, and_low b hb]
  obtain ⟨a1, h1⟩ : ∃ x, x = a / 4294967296 := ⟨_, rfl⟩
  obtain ⟨a0, h0⟩ : ∃ x, x = a % 4294967296 := ⟨_, rfl⟩
  obtain ⟨b1, g1⟩ : ∃ x, x = b / 4294967296 := ⟨_, rfl⟩
  obtain ⟨b0, g0⟩ : ∃ x, x = b % 4294967296 := ⟨_, rfl⟩
  rw [← h1, ← h0, ← g1, ← g0]
  have ea : a = a1 * 4294967296 + a0 := by omega
  have eb : b = b1 * 4294967296 + b0 := by omega
  have p11 := mul_bd (a := a1) (b := b1) (A := 4294967295) (B := 4294967295) (by omega) (by omega)
  have p10 := mul_bd (a := a1) (b := b0) (A := 4294967295) (B := 4294967295) (by omega) (by omega)
  have p01 := mul_bd (a := a0) (b := b1) (A := 4294967295) (B := 4294967295) (by omega) (by omega)
  have p00 := mul_bd (a := a0) (b := b0) (A := 4294967295) (B := 4294967295) (by omega) (by omega)
  have e : a * b = a1 * b1 * 18446744073709551616 + (a1 * b0 + a0 * b1) * 4294967296 + a0 * b0 := by
    rw [ea, eb, Int.add_mul, Int.mul_add, Int.mul_add]
    have t1 : a1 * 4294967296 * (b1 * 4294967296) = a1 * b1 * 18446744073709551616 := by
      rw [Int.mul_assoc, Int.mul_left_comm 4294967296 b1, ← Int.mul_assoc]
      rfl
    have t2 : a1 * 4294967296 * b0 = a1 * b0 * 4294967296 := by rw [Int.mul_assoc, Int.mul_comm 4294967296 b0, ← Int.mul_assoc]
    have t3 : a0 * (b1 * 4294967296) = a0 * b1 * 4294967296 := by rw [← Int.mul_assoc]
    rw [t1, t2, t3, Int.add_mul]
    omega
  rw [e]
  generalize a1 * b1 = q11 at *
  generalize a1 * b0 = q10 at *
  generalize a0 * b1 = q01 at *
  generalize a0 * b0 = q00 at *
  clear e ea eb h1 h0 g1 g0 ha hb
  simp only [u64w]
  have t0 : (q10 % 18446744073709551616 + q00 % 18446744073709551616 / 4294967296) % 18446744073709551616 = q10 + q00 / 4294967296 := by omega
  rw [t0, and_low _ (by omega)]
  congr 2
  omega
theorem abs_ok {x : Int} (h : -9223372036854775808 ≤ x ∧ x ≤ 9223372036854775807) : money_Abs.f x = some (if x < 0 then -x else x) := by
  unfold money_Abs.f
  by_cases h0 : x < 0
  · rw [if_pos h0, if_pos h0, w64 (x := x + 1) (by omega), w64 (x := -(x + 1)) (by omega), u64w, u64w]
    congr 1
    omega
  · rw [if_neg h0, if_neg h0, u64w]
    congr 1
    omega
/-- Which of two whole numbers is less. -/
def sgn (x y : Int) : Int := if x < y then -1 else if x = y then 0 else 1
theorem cmp_bad {n d m c : Int} (h : d ≤ 0 ∨ c ≤ 0) {k : Nat} (hk : 5 ≤ k) : frac_Compare.f k n d m c = some (0, 1) := by
  obtain ⟨k, rfl⟩ : ∃ x, k = x + 1 := ⟨k - 1, by omega⟩
  unfold frac_Compare.f
  by_cases h1 : d ≤ 0
  · rw [if_pos h1]; simp [frac_Compare.j0]
  · rw [if_neg h1, show decide (c ≤ 0) = true by simp; omega]; simp [frac_Compare.j0]
theorem cmp_j1 {n A B : Int} (_ : 0 ≤ A) (hB : 0 ≤ B) (k : Nat) :
    (if A / 18446744073709551616 < B / 18446744073709551616 then frac_Compare.j1 (k + 2) n (A / 18446744073709551616) (A % 18446744073709551616) (B / 18446744073709551616) (B % 18446744073709551616) 0 true
    else if A / 18446744073709551616 = B / 18446744073709551616 then frac_Compare.j1 (k + 2) n (A / 18446744073709551616) (A % 18446744073709551616) (B / 18446744073709551616) (B % 18446744073709551616) 0 (decide (A % 18446744073709551616 < B % 18446744073709551616))
    else frac_Compare.j1 (k + 2) n (A / 18446744073709551616) (A % 18446744073709551616) (B / 18446744073709551616) (B % 18446744073709551616) 0 false) = some (if n < 0 then sgn B A else sgn A B, 0) := by
  have t1 : ∀ b, b = true → A < B → frac_Compare.j1 (k + 2) n (A / 18446744073709551616) (A % 18446744073709551616) (B / 18446744073709551616) (B % 18446744073709551616) 0 b = some (if n < 0 then sgn B A else sgn A B, 0) := by
    rintro _ rfl h
    simp only [frac_Compare.j1, if_true]
    unfold sgn
    by_cases hn : n < 0
    · rw [if_pos hn, if_pos hn, if_neg (by omega), if_neg (by omega)]; rfl
    · rw [if_neg hn, if_neg hn, if_pos h]
  have t2 : ∀ b, b = false → B ≤ A → frac_Compare.j1 (k + 2) n (A / 18446744073709551616) (A % 18446744073709551616) (B / 18446744073709551616) (B % 18446744073709551616) 0 b = some (if n < 0 then sgn B A else sgn A B, 0) := by
    rintro _ rfl h
    simp only [frac_Compare.j1, Bool.false_eq_true, if_false]
    have w0 : wrap64 (-0) = 0 := by rw [show (-0 : Int) = 0 from rfl]; exact w64 (by omega)
    by_cases he : A = B
    · subst he
      rw [if_neg (by omega), show decide (A % 18446744073709551616 > A % 18446744073709551616) = false by simp]
      simp only [frac_Compare.j2, Bool.false_eq_true, if_false, w0]
      unfold sgn
      simp
    · have t3 : ∀ b, b = true → frac_Compare.j2 (k + 1) n 0 b = some (if n < 0 then sgn B A else sgn A B, 0) := by
        rintro _ rfl
        simp only [frac_Compare.j2, if_true]
        unfold sgn
        by_cases hn : n < 0
        · rw [if_pos hn, if_pos hn, if_pos (by omega)]
        · rw [if_neg hn, if_neg hn, if_neg (by omega), if_neg he]
      by_cases hg : A / 18446744073709551616 > B / 18446744073709551616
      · rw [if_pos hg]; exact t3 _ rfl
      · rw [if_neg hg]; exact t3 _ (by simp; omega)
  by_cases h1 : A / 18446744073709551616 < B / 18446744073709551616
  · rw [if_pos h1]; exact t1 _ rfl (by omega)
  · rw [if_neg h1]
    by_cases h2 : A / 18446744073709551616 = B / 18446744073709551616
    · rw [if_pos h2]
      by_cases h3 : A % 18446744073709551616 < B % 18446744073709551616
      · exact t1 _ (by simpa using h3) (by omega)
      · exact t2 _ (by simpa using h3) (by omega)
    · rw [if_neg h2]
      exact t2 _ rfl (by omega)
theorem cmp_ok {n d m c : Int} (hn : -9223372036854775808 ≤ n ∧ n ≤ 9223372036854775807) (hm : -9223372036854775808 ≤ m ∧ m ≤ 9223372036854775807) (hd : 0 < d ∧ d ≤ 9223372036854775807) (hc : 0 < c ∧ c ≤ 9223372036854775807) {k : Nat} (hk : 5 ≤ k) :
    frac_Compare.f k n d m c = some (sgn (n * c) (m * d), 0) := by
  obtain ⟨k, rfl⟩ : ∃ x, k = x + 1 + 2 := ⟨k - 3, by omega⟩
  unfold frac_Compare.f
  rw [if_neg (by omega), show decide (c ≤ 0) = false by simp; omega]
  have e : k + 1 + 2 = k + 2 + 1 := by omega
  rw [e]
  generalize hK : k + 2 = K
  simp only [frac_Compare.j0, Bool.false_eq_true, if_false]
  subst hK
  have hX : (n < 0 → n * c < 0) ∧ (0 ≤ n → 0 ≤ n * c) := ⟨fun h => Int.mul_neg_of_neg_of_pos h hc.1, fun h => Int.mul_nonneg h (by omega)⟩
  have hY : (m < 0 → m * d < 0) ∧ (0 ≤ m → 0 ≤ m * d) := ⟨fun h => Int.mul_neg_of_neg_of_pos h hd.1, fun h => Int.mul_nonneg h (by omega)⟩
  by_cases hs : (decide (n < 0) != decide (m < 0)) = true
  · rw [if_pos hs]
    simp only [bne_iff_ne, ne_eq, decide_eq_decide] at hs
    by_cases h1 : n < 0
    · rw [if_pos h1]
      have := hX.1 h1
      have := hY.2 (by omega)
      unfold sgn
      rw [if_pos (by omega)]
    · rw [if_neg h1]
      have := hX.2 (by omega)
      have := hY.1 (by omega)
      unfold sgn
      rw [if_neg (by omega), if_neg (by omega)]
  · rw [if_neg hs]
    simp only [bne_iff_ne, ne_eq, decide_eq_decide, Classical.not_not] at hs
    rw [abs_ok hn, abs_ok hm, u64w, u64w, Int.emod_eq_of_lt (a := c) (by omega) (by omega), Int.emod_eq_of_lt (a := d) (by omega) (by omega)]
    simp only [Option.bind_some]
    rw [mul64_ok (by split <;> omega) (by omega), mul64_ok (by split <;> omega) (by omega)]
    simp only [Option.bind_some]
    by_cases h1 : n < 0
    · have h2 := hs.1 h1
      have a1 := hX.1 h1
      have a2 := hY.1 h2
      rw [if_pos h1, if_pos h2, Int.neg_mul, Int.neg_mul, cmp_j1 (by omega) (by omega), if_pos h1]
      congr 2
      unfold sgn
      repeat' split
      all_goals omega
    · have h2 : ¬ m < 0 := fun h => h1 (hs.2 h)
      rw [if_neg h1, if_neg h2, cmp_j1 (hX.2 (by omega)) (hY.2 (by omega)), if_neg h1]
/-- A fraction in its lowest terms. -/
theorem low_l0 {n d : Int} : ∀ (j : Nat) (k : Nat) (a b : Int), b ≤ j → j < k → 0 ≤ a → 0 ≤ b → b ≤ 9223372036854775807 → 0 < (Nat.gcd a.toNat b.toNat) → (Nat.gcd a.toNat b.toNat : Nat) ≤ (9223372036854775807 : Int) →
    frac_Lowest.l0 k n d a b = some (wrap64 (Int.tdiv n (Nat.gcd a.toNat b.toNat)), wrap64 (Int.tdiv d (Nat.gcd a.toNat b.toNat)), 0) := by
  intro j
  induction j with
  | zero =>
    intro k a b hb hk ha hb0 hb1 hg hg2
    obtain ⟨k, rfl⟩ : ∃ x, k = x + 1 := ⟨k - 1, by omega⟩
    obtain rfl : b = 0 := by omega
    have ga : Nat.gcd a.toNat (0 : Int).toNat = a.toNat := by simp
    rw [ga] at hg hg2 ⊢
    have ea : ((a.toNat : Nat) : Int) = a := by omega
    simp only [frac_Lowest.l0]
    rw [if_neg (by omega), if_neg (by omega), w64 (x := a) (by omega), if_neg (by omega), ea]
  | succ j ih =>
    intro k a b hb hk ha hb0 hb1 hg hg2
    obtain ⟨k, rfl⟩ : ∃ x, k = x + 1 := ⟨k - 1, by omega⟩
    by_cases h0 : b = 0
    · subst h0
      have ga : Nat.gcd a.toNat (0 : Int).toNat = a.toNat := by simp
      rw [ga] at hg hg2 ⊢
      have ea : ((a.toNat : Nat) : Int) = a := by omega
      simp only [frac_Lowest.l0]
      rw [if_neg (by omega), if_neg (by omega), w64 (x := a) (by omega), if_neg (by omega), ea]
    · have hb2 : 0 < b := by omega
      have r0 := Int.emod_nonneg a h0
      have r1 := Int.emod_lt_of_pos a hb2
      have hgcd : Nat.gcd b.toNat (a % b).toNat = Nat.gcd a.toNat b.toNat := by
        have : (a % b).toNat = a.toNat % b.toNat := by rw [Int.toNat_emod ha hb0]
        rw [this, Nat.gcd_comm b.toNat, ← Nat.gcd_rec, Nat.gcd_comm]
      simp only [frac_Lowest.l0]
      rw [if_pos hb2, if_neg h0, Int.tmod_eq_emod_of_nonneg ha, ih k b (a % b) (by omega) (by omega) hb0 r0 (by omega) (by rw [hgcd]; exact hg) (by rw [hgcd]; exact hg2), hgcd]
theorem low_bad {n d : Int} (h : d ≤ 0) (k : Nat) : frac_Lowest.f k n d = some (0, 0, 1) := by
  unfold frac_Lowest.f
  rw [if_pos h]
theorem low_ok {n d : Int} (hn : -9223372036854775808 ≤ n ∧ n ≤ 9223372036854775807) (hd : 0 < d ∧ d ≤ 9223372036854775807) {k : Nat} (hk : 9223372036854775900 ≤ k) :
    ∃ n' d' g : Int, frac_Lowest.f k n d = some (n', d', 0) ∧ 0 < g ∧ n = g * n' ∧ d = g * d' ∧ 0 < d' ∧ d' ≤ 9223372036854775807 ∧ (-9223372036854775808 ≤ n' ∧ n' ≤ 9223372036854775807) ∧ Nat.gcd n'.natAbs d'.natAbs = 1 := by
  have hb : (IntKind.u64.wrap d) = d := by rw [u64w]; omega
  have ha : (if n < 0 then -n else n).toNat = n.natAbs := by split <;> omega
  have hdn : d.toNat = d.natAbs := by omega
  have gpos : 0 < Nat.gcd n.natAbs d.natAbs := Nat.gcd_pos_of_pos_right _ (by omega)
  have gle : Nat.gcd n.natAbs d.natAbs ≤ d.natAbs := Nat.gcd_le_right _ (by omega)
  have e := low_l0 (n := n) (d := d) d.toNat k (if n < 0 then -n else n) d (by omega) (by omega) (by split <;> omega) (by omega) hd.2 (by rw [ha, hdn]; exact gpos) (by rw [ha, hdn]; omega)
  rw [ha, hdn] at e
  obtain ⟨n', hn'⟩ : (Nat.gcd n.natAbs d.natAbs : Int) ∣ n := Int.ofNat_dvd_left.2 (Nat.gcd_dvd_left _ _)
  obtain ⟨d', hd'⟩ : (Nat.gcd n.natAbs d.natAbs : Int) ∣ d := Int.ofNat_dvd_left.2 (Nat.gcd_dvd_right _ _)
  have hgcd : Nat.gcd n'.natAbs d'.natAbs = 1 := by
    have h1 : n.natAbs = Nat.gcd n.natAbs d.natAbs * n'.natAbs := by
      have := congrArg Int.natAbs hn'
      rw [Int.natAbs_mul] at this
      simpa using this
    have h2 : d.natAbs = Nat.gcd n.natAbs d.natAbs * d'.natAbs := by
      have := congrArg Int.natAbs hd'
      rw [Int.natAbs_mul] at this
      simpa using this
    have h3 : Nat.gcd n.natAbs d.natAbs = Nat.gcd n.natAbs d.natAbs * Nat.gcd n'.natAbs d'.natAbs := by
      have : Nat.gcd (Nat.gcd n.natAbs d.natAbs * n'.natAbs) (Nat.gcd n.natAbs d.natAbs * d'.natAbs) = Nat.gcd n.natAbs d.natAbs * Nat.gcd n'.natAbs d'.natAbs := Nat.gcd_mul_left _ _ _
      rw [← h1, ← h2] at this
      exact this
    exact Nat.eq_of_mul_eq_mul_left gpos (by rw [Nat.mul_one]; exact h3.symm)
  generalize (Nat.gcd n.natAbs d.natAbs) = G at *
  have gp : (0 : Int) < G := by omega
  have hd0 : 0 < d' := by
    rcases Int.lt_or_le 0 d' with h | h
    · exact h
    · have := Int.mul_nonpos_of_nonneg_of_nonpos (show (0 : Int) ≤ G by omega) h
      omega
  have b1 : d' ≤ d := by
    have := Int.mul_le_mul_of_nonneg_right (show (1 : Int) ≤ G by omega) (show 0 ≤ d' by omega)
    omega
  have b2 : -9223372036854775808 ≤ n' ∧ n' ≤ 9223372036854775807 := by
    rcases Int.lt_or_le n' 0 with h | h
    · have := Int.mul_le_mul_of_nonpos_right (show (1 : Int) ≤ G by omega) (show n' ≤ 0 by omega)
      omega
    · have := Int.mul_le_mul_of_nonneg_right (show (1 : Int) ≤ G by omega) h
      omega
  refine ⟨n', d', G, ?_, gp, hn', hd', hd0, by omega, b2, hgcd⟩
  unfold frac_Lowest.f
  rw [if_neg (by omega), abs_ok hn, hb]
  simp only [Option.bind_some]
  rw [e]
  have t1 : Int.tdiv n G = n' := by
    rw [hn']
    exact Int.mul_tdiv_cancel_left n' (by omega)
  have t2 : Int.tdiv d G = d' := by
    rw [hd']
    exact Int.mul_tdiv_cancel_left d' (by omega)
  rw [t1, t2, w64 b2, w64 (by omega)]
theorem low_eq {n d m c : Int} (hd : 0 < d) (hc : 0 < c) (g1 : Nat.gcd n.natAbs d.natAbs = 1) (g2 : Nat.gcd m.natAbs c.natAbs = 1) (h : n * c = m * d) : n = m ∧ d = c := by
  have e : n.natAbs * c.natAbs = m.natAbs * d.natAbs := by
    have := congrArg Int.natAbs h
    rwa [Int.natAbs_mul, Int.natAbs_mul] at this
  have h1 : d.natAbs ∣ c.natAbs := by
    have : d.natAbs ∣ n.natAbs * c.natAbs := ⟨m.natAbs, by rw [e, Nat.mul_comm]⟩
    exact Nat.Coprime.dvd_of_dvd_mul_left (by rw [Nat.Coprime, Nat.gcd_comm]; exact g1) this
  have h2 : c.natAbs ∣ d.natAbs := by
    have : c.natAbs ∣ m.natAbs * d.natAbs := ⟨n.natAbs, by rw [← e, Nat.mul_comm]⟩
    exact Nat.Coprime.dvd_of_dvd_mul_left (by rw [Nat.Coprime, Nat.gcd_comm]; exact g2) this
  have h3 : d.natAbs = c.natAbs := Nat.dvd_antisymm h1 h2
  have h4 : d = c := by omega
  subst h4
  exact ⟨Int.eq_of_mul_eq_mul_right (by omega) h, rfl⟩
end Go.Proofs.Ytfiomckebicphaa.Pure
