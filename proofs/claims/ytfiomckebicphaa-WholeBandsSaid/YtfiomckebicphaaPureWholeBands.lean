/- The law WholeBands, over numbers and lists alone: what an amount comes to by bands is the same for both sides at once as for each by itself, and the same as that of its pieces, each from where the one ahead ended. -/
import Derived.Test.YtfiomckebicphaaB0
import Derived.Test.YtfiomckebicphaaBpairBanded
import Derived.Test.YtfiomckebicphaaBpairwhole
import Derived.Test.YtfiomckebicphaaBpairRight
import Derived.Test.YtfiomckebicphaaBpairSides
import Derived.Test.YtfiomckebicphaaBbandExact
import Derived.Test.YtfiomckebicphaaBbandBetween
import Derived.Test.YtfiomckebicphaaBbandEmployer
import Derived.Test.YtfiomckebicphaaBpairOf
import Derived.Test.YtfiomckebicphaaBfracRound
import Derived.Test.YtfiomckebicphaaBpairCoins
import Derived.Test.YtfiomckebicphaaBfracRight
import Derived.Test.YtfiomckebicphaaBfracCoins
import Derived.Test.YtfiomckebicphaaBstipendtopWholeBands
import Derived.Test.YtfiomckebicphaaMBand
import Derived.Test.YtfiomckebicphaaMFracB
namespace Go.Proofs.Ytfiomckebicphaa.PB
open Go.RowKit Go.Proofs.Ytfiomckebicphaa.B Go.Proofs.YtfiomckebicphaaW.PrintWords Go.Proofs.YtfiomckebicphaaW.PrintLast

def VR (l : List S30) (x : Int) : Int := V S30.f1 l x (l.length + 1) 0
def VE (l : List S30) (x : Int) : Int := V S30.f2 l x (l.length + 1) 0
theorem exact_ok {l : List S30} {x : Int} (hB : BL l) (hx : 0 ≤ x ∧ x ≤ 100000000000) {K : Nat} (hK : 200 ≤ K) : band_Exact.f K x l = some (VR l x, 0) ∧ 0 ≤ VR l x ∧ VR l x ≤ 10000 * x := by
  obtain ⟨h1, h2⟩ := each_R_ok hB hx hK
  refine ⟨?_, h2⟩
  unfold band_Exact.f
  rw [h1]
  rfl
theorem employer_ok {l : List S30} {x : Int} (hB : BL l) (hx : 0 ≤ x ∧ x ≤ 100000000000) {K : Nat} (hK : 200 ≤ K) : band_Employer.f K x l = some (VE l x, 0) ∧ 0 ≤ VE l x ∧ VE l x ≤ 10000 * x := by
  obtain ⟨h1, h2⟩ := each_E_ok hB hx hK
  refine ⟨?_, h2⟩
  unfold band_Employer.f
  rw [h1]
  rfl
theorem between_ok {l : List S30} {x y : Int} (hB : BL l) (hx : 0 ≤ x ∧ x ≤ 100000000000) (hy : 0 ≤ y ∧ y ≤ 100000000000) {K : Nat} (hK : 200 ≤ K) : band_Between.f K x y l = some (VR l y - VR l x, 0) := by
  obtain ⟨h1, h2, h3⟩ := exact_ok hB hx hK
  obtain ⟨g1, g2, g3⟩ := exact_ok hB hy hK
  unfold band_Between.f
  rw [h1]
  simp only [Option.bind_some, if_true]
  rw [g1]
  simp only [Option.bind_some, if_true]
  rw [w64 (by omega)]
theorem round_all (n m : Int) (hn : 0 ≤ n ∧ n ≤ 1000000000000000) (k : Nat) : ∃ u, frac_Round.f (k + 1) n 10000 m = some (u, if 1 ≤ m ∧ m ≤ 6 then 0 else 1) ∧ (¬ (1 ≤ m ∧ m ≤ 6) → u = 0) := by
  by_cases hm : 1 ≤ m ∧ m ≤ 6
  · obtain ⟨u, h, _⟩ := PF.round_ok (n := n) (d := 10000) (m := m) (by omega) (by omega) (by omega) hm k
    exact ⟨_, by rw [if_pos hm]; exact h, fun h => absurd hm h⟩
  · exact ⟨0, by rw [if_neg hm]; exact PF.round_bad (by omega) k, fun _ => rfl⟩
theorem coins_ok (n m : Int) (hn : 0 ≤ n ∧ n ≤ 1000000000000000) (k : Nat) : frac_Coins.f k n m = frac_Round.f k n 10000 m := by
  unfold frac_Coins.f
  have h : frac_Right.f n = some true := by
    unfold frac_Right.f
    rw [if_pos (by omega)]
    simp; omega
  rw [h]
  simp only [Option.bind_some, if_true]
  cases frac_Round.f k n 10000 m with
  | none => rfl
  | some p => rfl
theorem sides_ok {a b : Int} (ha : 0 ≤ a ∧ a ≤ 1000000000000000) (hb : 0 ≤ b ∧ b ≤ 1000000000000000) : pair_Sides.f (a, b) = some (a, b, 0) := by
  have fa : Flt.fok a = true := decide_eq_true ⟨ha.1, by omega⟩
  have fb : Flt.fok b = true := decide_eq_true ⟨hb.1, by omega⟩
  unfold pair_Sides.f pair_Right.f pair_whole.f
  simp only [fa, fb, if_true, Option.bind_some]
theorem of_ok {a b : Int} (ha : 0 ≤ a ∧ a ≤ 1000000000000000) (hb : 0 ≤ b ∧ b ≤ 1000000000000000) : pair_Of.f a b = some ((a, b), 0) := by
  have fa : Flt.fok a = true := decide_eq_true ⟨ha.1, by omega⟩
  have fb : Flt.fok b = true := decide_eq_true ⟨hb.1, by omega⟩
  unfold pair_Of.f
  rw [if_neg (by omega), if_neg (by omega), if_neg (by omega), if_neg (by omega), if_pos fa, if_pos fb]
theorem end_ok {a b m : Int} (ha : 0 ≤ a ∧ a ≤ 1000000000000000) (hb : 0 ≤ b ∧ b ≤ 1000000000000000) (k : Nat) : stipendtop_WholeBands.j4 (k + 1 + 1) m a b (a, b) false = some true := by
  obtain ⟨u, h1, h2⟩ := round_all a m ha k
  obtain ⟨v, g1, g2⟩ := round_all b m hb k
  simp only [stipendtop_WholeBands.j4, Bool.false_eq_true, if_false]
  rw [coins_ok a m ha, coins_ok b m hb, h1, g1]
  unfold pair_Coins.f
  rw [sides_ok ha hb]
  simp only [Option.bind_some, if_true]
  rw [h1, g1]
  by_cases hm : 1 ≤ m ∧ m ≤ 6
  · simp [hm]
  · have hu := h2 hm
    have hv := g2 hm
    subst hu
    subst hv
    simp [hm]
theorem law_l0 {l : List S30} {xs : List Int} {m : Int} (hB : BL l) (hxs : xs.length ≤ 40) : ∀ (j : Nat) (i at_ : Int) (K : Nat), 0 ≤ i → i + j = xs.length → 0 ≤ at_ → at_ ≤ 2000000000 * i → 2 * j + 300 ≤ K →
    stipendtop_WholeBands.l0 K l m at_ (VR l at_) xs xs.length i = some true := by
  intro j
  induction j with
  | zero =>
    intro i at_ K h0 hi ha ha2 hK
    obtain ⟨K, rfl⟩ : ∃ q, K = q + 1 + 1 + 1 := ⟨K - 3, by omega⟩
    obtain ⟨e1, e2, e3⟩ := exact_ok hB (x := at_) (by omega) (K := K + 1 + 1) (by omega)
    obtain ⟨g1, g2, g3⟩ := employer_ok hB (x := at_) (by omega) (K := K + 1 + 1) (by omega)
    have b1 : pair_Banded.f (K + 1 + 1) at_ l = some ((VR l at_, VE l at_), 0) := banded_ok hB (x := at_) (by omega) (K := K + 1 + 1) (by omega)
    have feq : Flt.feq (VR l at_) (VE l at_) (VR l at_) (VE l at_) = true := decide_eq_true ⟨⟨e2, by omega⟩, ⟨g2, by omega⟩, ⟨e2, by omega⟩, ⟨g2, by omega⟩⟩
    have fin := end_ok (m := m) (a := VR l at_) (b := VE l at_) (by omega) (by omega) K
    generalize hQ : K + 1 + 1 = Q at *
    simp only [stipendtop_WholeBands.l0]
    rw [if_neg (by omega), e1]
    simp only [Option.bind_some]
    rw [g1]
    simp only [Option.bind_some]
    rw [b1]
    simp only [Option.bind_some]
    rw [of_ok (by omega) (by omega)]
    simp only [Option.bind_some]
    rw [if_pos (by decide +kernel), if_pos trivial, if_pos feq]
    simp only [beq_self_eq_true, Bool.and_self, Bool.not_true]
    exact fin
  | succ j ih =>
    intro i at_ K h0 hi ha ha2 hK
    obtain ⟨K, rfl⟩ : ∃ q, K = q + 1 + 1 := ⟨K - 2, by omega⟩
    simp only [stipendtop_WholeBands.l0]
    rw [if_pos (by omega), if_pos h0, if_pos (by omega)]
    by_cases c1 : rd xs i < 0
    · rw [if_pos c1]
      simp only [stipendtop_WholeBands.j3, if_true]
    · rw [if_neg c1]
      by_cases c2 : rd xs i > 2000000000
      · rw [decide_eq_true c2]
        simp only [stipendtop_WholeBands.j3, if_true]
      · rw [decide_eq_false c2]
        simp only [stipendtop_WholeBands.j3, Bool.false_eq_true, if_false]
        obtain ⟨e1, e2, e3⟩ := exact_ok hB (x := at_) (by omega) (K := K) (by omega)
        obtain ⟨g1, g2, g3⟩ := exact_ok hB (x := at_ + rd xs i) (by omega) (K := K) (by omega)
        rw [w64 (x := at_ + rd xs i) (by omega), between_ok hB (by omega) (by omega) (by omega)]
        simp only [Option.bind_some, if_true]
        rw [w64 (x := VR l at_ + (VR l (at_ + rd xs i) - VR l at_)) (by omega), w64 (x := i + 1) (by omega), show VR l at_ + (VR l (at_ + rd xs i) - VR l at_) = VR l (at_ + rd xs i) by omega]
        exact ih (i + 1) (at_ + rd xs i) K (by omega) (by omega) (by omega) (by omega) (by omega)
theorem WholeBands : ∀ (l : List S30) (xs : List Int) (m : Int), ∃ k, stipendtop_WholeBands.f k l xs m = some true := by
  intro l xs m
  obtain ⟨K, hK⟩ : ∃ K : Nat, K = 900 := ⟨900, rfl⟩
  refine ⟨K + 1 + 1 + 1, ?_⟩
  have hb : pair_Banded.f (K + 1 + 1 + 1) 10 ([(⟨0, 3, 4⟩ : S30)] : List S30) = some ((30, 40), 0) := by subst hK; decide +kernel
  have hs : pair_Sides.f (30, 40) = some (30, 40, 0) := by decide +kernel
  unfold stipendtop_WholeBands.f
  rw [hb]
  simp only [Option.bind_some]
  rw [hs]
  simp only [Option.bind_some, if_true, bne_self_eq_false]
  simp only [stipendtop_WholeBands.j0, Bool.false_eq_true, if_false]
  obtain ⟨e, e1, e2⟩ := check_ok l (K := K + 1 + 1) (by omega)
  rw [e1]
  simp only [Option.bind_some]
  by_cases he : e = 0
  · have hB := e2 he
    rw [if_pos he]
    by_cases h40 : (xs.length : Int) > 40
    · rw [decide_eq_true h40]
      simp only [stipendtop_WholeBands.j1, if_true]
    · rw [decide_eq_false h40]
      simp only [stipendtop_WholeBands.j1, Bool.false_eq_true, if_false]
      obtain ⟨z1, z2, z3⟩ := exact_ok hB (x := 0) (by omega) (K := 200) (by omega)
      have hz : VR l 0 = 0 := by omega
      have := law_l0 (m := m) hB (xs := xs) (by omega) xs.length 0 0 (K + 1) (by omega) (by omega) (by omega) (by omega) (by omega)
      rwa [hz] at this
  · rw [if_neg he]
    simp only [stipendtop_WholeBands.j1, if_true]
end Go.Proofs.Ytfiomckebicphaa.PB
