/- The law FracModes of the package stipendlaw02 holds for every input: rounded down no more, and rounded up no less, than by any other way; both are one apart, if what is left isn't nought; and the other sign turns down to up. No condition. -/
import Derived.Test.YtfiomckebicphaaX6
import Derived.Test.YtfiomckebicphaaMFrac
namespace Go.Proofs.Ytfiomckebicphaa.Pure
open Go.RowKit Go.Proofs.Ytfiomckebicphaa.X Go.Proofs.YtfiomckebicphaaW.PrintWords Go.Proofs.YtfiomckebicphaaW.PrintLast

theorem neg_div {n d : Int} (hd : 0 < d) : (-n) / d = -(n / d) - (if 0 < n % d then 1 else 0) := by
  have h1 := Int.emod_nonneg n (show d ≠ 0 by omega)
  have h2 := Int.emod_lt_of_pos n hd
  have h3 := Int.mul_ediv_add_emod n d
  by_cases hr : 0 < n % d
  · rw [if_pos hr]
    refine ((Int.ediv_emod_unique (a := -n) (r := d - n % d) hd).2 ⟨?_, by omega, by omega⟩).1
    rw [Int.mul_sub, Int.mul_neg, Int.mul_one]
    omega
  · rw [if_neg hr]
    refine ((Int.ediv_emod_unique (a := -n) (r := 0) hd).2 ⟨?_, by omega, by omega⟩).1
    rw [Int.mul_sub, Int.mul_neg, Int.mul_zero]
    omega
theorem modes_step {n d h o m : Int} (hn : -9223372036854775808 ≤ n ∧ n ≤ 9223372036854775807) (hd : 0 < d) (hd2 : d ≤ 9223372036854775807) (hm : 1 ≤ m ∧ m ≤ 6) (hh : h = n / d + (if 0 < n % d then 1 else 0)) (k : Nat) :
    stipendlaw02_FracModes.l0 (k + 1 + 1) n d (n / d) h o m = stipendlaw02_FracModes.l0 (k + 1) n d (n / d) h o (m + 1) := by
  obtain ⟨u, hu, h01, hz, hp⟩ := round_ok (n := n) (d := d) (m := m) hn hd hd2 hm k
  have h1 := Int.emod_nonneg n (show d ≠ 0 by omega)
  generalize k + 1 = K at hu ⊢
  simp only [stipendlaw02_FracModes.l0]
  rw [if_pos hm.2, hu]
  simp only [Option.bind_some, if_true]
  rw [w64 (x := m + 1) (by omega)]
  rcases h01 with rfl | rfl
  · rw [if_pos (by omega)]
  · rw [if_neg (by omega)]
    have hr : 0 < n % d := by
      by_cases h0 : n % d = 0
      · have := hz h0; omega
      · omega
    rw [if_pos hr] at hh
    rw [if_pos hh.symm]
theorem modes_run {n d h o : Int} (hn : -9223372036854775808 ≤ n ∧ n ≤ 9223372036854775807) (hd : 0 < d) (hd2 : d ≤ 9223372036854775807) (hh : h = n / d + (if 0 < n % d then 1 else 0)) (k : Nat) :
    stipendlaw02_FracModes.l0 (k + 1 + 1 + 1 + 1 + 1 + 1 + 1) n d (n / d) h o 1 = stipendlaw02_FracModes.l0 (k + 1) n d (n / d) h o 7 := by
  rw [modes_step (m := 1) hn hd hd2 (by omega) hh, modes_step (m := 1 + 1) hn hd hd2 (by omega) hh, modes_step (m := 1 + 1 + 1) hn hd hd2 (by omega) hh,
    modes_step (m := 1 + 1 + 1 + 1) hn hd hd2 (by omega) hh, modes_step (m := 1 + 1 + 1 + 1 + 1) hn hd hd2 (by omega) hh, modes_step (m := 1 + 1 + 1 + 1 + 1 + 1) hn hd hd2 (by omega) hh]
  rfl
theorem FracModes : stipendlaw02_FracModes.Pure := by
  intro n d hn hd
  have hn := wf64 hn
  have hd := wf64 hd
  refine ⟨0 + 70, ?_⟩
  unfold stipendlaw02_FracModes.f
  rw [parts_ok 0]
  simp only [Option.bind_some, if_true]
  by_cases hbad : d ≤ 0
  · rw [if_pos hbad]; simp [stipendlaw02_FracModes.j0]
  · rw [if_neg hbad]
    by_cases hmin : n = -9223372036854775808
    · simp [hmin, stipendlaw02_FracModes.j0]
    · rw [show (n == -9223372036854775808) = false from beq_eq_false_iff_ne.mpr hmin]
      have hn1 : -9223372036854775808 ≤ -n ∧ -n ≤ 9223372036854775807 := by omega
      obtain ⟨u, hu, u01, uz, up⟩ := round_ok (n := n) (d := d) (m := 1) hn (by omega) (by omega) (by omega) 68
      obtain ⟨v, hv, v01, vz, vp⟩ := round_ok (n := n) (d := d) (m := 2) hn (by omega) (by omega) (by omega) 68
      obtain ⟨x, hx, x01, xz, xp⟩ := round_ok (n := -n) (d := d) (m := 1) hn1 (by omega) (by omega) (by omega) 68
      have h1 := Int.emod_nonneg n (show d ≠ 0 by omega)
      have h1' := Int.emod_nonneg (-n) (show d ≠ 0 by omega)
      have hb := div_bounds (n := n) (show 0 < d by omega)
      have hnd := neg_div (n := n) (show 0 < d by omega)
      have u0 : u = 0 := by
        by_cases h0 : n % d = 0
        · exact uz h0
        · exact (up (by omega)).1 rfl
      have x0 : x = 0 := by
        by_cases h0 : (-n) % d = 0
        · exact xz h0
        · exact (xp (by omega)).1 rfl
      have v0 : v = if 0 < n % d then 1 else 0 := by
        by_cases h0 : 0 < n % d
        · rw [if_pos h0]; exact (vp h0).2.1 rfl
        · rw [if_neg h0]; exact vz (by omega)
      subst u0 x0
      simp only [stipendlaw02_FracModes.j0, Bool.false_eq_true, if_false]
      rw [w64 hn1, hu, hv, hx]
      simp only [Option.bind_some, Int.add_zero]
      have hh : n / d + v = n / d + (if 0 < n % d then 1 else 0) := by rw [v0]
      rw [show (69 : Nat) = 62 + 1 + 1 + 1 + 1 + 1 + 1 + 1 from rfl, modes_run hn (by omega) (by omega) hh]
      generalize 62 = K
      simp only [stipendlaw02_FracModes.l0]
      rw [if_neg (by omega)]
      have htm : (Int.tmod n d == 0) = decide (n % d = 0) := by
        rw [Bool.eq_iff_iff]
        simp only [beq_iff_eq, decide_eq_true_eq]
        constructor
        · intro h; exact Int.emod_eq_zero_of_dvd (Int.dvd_of_tmod_eq_zero h)
        · intro h; exact Int.tmod_eq_zero_of_dvd (Int.dvd_of_emod_eq_zero h)
      have hr2 : 0 < n % d → n / d < 9223372036854775807 := by
        intro hr
        have h3 := Int.mul_ediv_add_emod n d
        have h4 := Int.emod_lt_of_pos n (show 0 < d by omega)
        have h5 : 1 < d := by omega
        rcases Int.lt_or_le n 0 with h | h
        · have := (hb.2 h).2; omega
        · have := (hb.1 h).2
          rcases Int.lt_or_le (n / d) 9223372036854775807 with h' | h'
          · exact h'
          · have h6 : n / d = 9223372036854775807 := by omega
            rw [h6] at h3
            omega
      by_cases h0 : 0 < n % d
      · rw [if_pos h0] at v0 hnd
        subst v0
        have := hr2 h0
        have hlo : -9223372036854775808 ≤ n / d := by
          rcases Int.lt_or_le n 0 with h | h
          · have := (hb.2 h).1; omega
          · have := (hb.1 h).1; omega
        rw [if_pos (by rw [w64 (by omega)]; omega), if_neg (by omega), htm, show decide (n % d = 0) = false by simp; omega, if_pos (by simp; omega), if_neg (by omega), if_pos (by omega), w64 (by omega), show n / d + 1 - n / d = 1 by omega]
        rfl
      · rw [if_neg h0] at v0 hnd
        subst v0
        have hlo : -9223372036854775808 < n / d ∧ n / d ≤ 9223372036854775807 := by
          rcases Int.lt_or_le n 0 with h | h
          · have := (hb.2 h); omega
          · have := (hb.1 h); omega
        rw [if_pos (by rw [w64 (by omega)]; omega), if_neg (by omega), htm, show decide (n % d = 0) = true by simp; omega, if_pos (by simp), if_pos (by omega)]

end Go.Proofs.Ytfiomckebicphaa.Pure
