/- The law HoldYear of the package stipendlaw14 holds for every list: what is withheld of a year's pays is what the steps withhold, one behind the other. No condition. -/
import Derived.Test.YtfiomckebicphaaX0
import Derived.Test.YtfiomckebicphaaXholdStateDue
import Derived.Test.YtfiomckebicphaaXholdYear
import Derived.Test.YtfiomckebicphaaXstipendlaw14HoldYear
import Derived.Test.YtfiomckebicphaaMHold
namespace Go.Proofs.Ytfiomckebicphaa.Pure
open Go Go.RowKit Go.Proofs.Ytfiomckebicphaa.X Go.Proofs.YtfiomckebicphaaW.PrintWords Go.Proofs.YtfiomckebicphaaW.PrintLast Go.Proofs.YtfiomckebicphaaW.PrintMore

/-- The pays from a place on, with what was withheld before it, and with the state before it. -/
def yr (r : Int) : List S49 → List Int → Int → Int → List Int × Int × Int × Int
  | [], acc, W, S => (acc, W, S, 0)
  | p :: ps, acc, W, S =>
    if (step r W S p.f0 p.f1 p.f2).2.2.2 = 0 then yr r ps (acc ++ [(step r W S p.f0 p.f1 p.f2).1]) (step r W S p.f0 p.f1 p.f2).2.1 (step r W S p.f0 p.f1 p.f2).2.2.1
    else ([], 0, 0, (step r W S p.f0 p.f1 p.f2).2.2.2)

theorem rd49_drop {l : List S49} {i : Nat} {p : S49} {ps : List S49} (h : l.drop i = p :: ps) : rd_T49 l (i : Int) = p := by
  unfold rd_T49
  have h0 : (l.drop i)[0]? = l[i + 0]? := List.getElem?_drop
  rw [h] at h0
  rw [Int.toNat_natCast, List.getD_eq_getElem?_getD, ← Nat.add_zero i, ← h0]
  rfl

theorem year_l0 (a : List (List S30)) (b : List S130) (c : List S132) {r z : Int} (l : List S49) (hl : l.length ≤ 1000) :
    ∀ (ps : List S49) (i : Nat) (acc : List Int) (W S : Int) (k : Nat), l.drop i = ps → i + ps.length = l.length → acc.length = i → 62 + ps.length ≤ k →
    hold_Year.l0 k acc l (l.length : Int) (i : Int) a b c r z W S = some (yr r ps acc W S) := by
  intro ps
  induction ps with
  | nil =>
    intro i acc W S k hd hi ha hk
    obtain ⟨k, rfl⟩ : ∃ n, k = n + 1 := ⟨k - 1, by simp at hk; omega⟩
    simp only [List.length_nil, Nat.add_zero] at hi
    unfold hold_Year.l0
    rw [if_neg (by omega)]
    rfl
  | cons p ps ih =>
    intro i acc W S k hd hi ha hk
    simp only [List.length_cons] at hi hk
    obtain ⟨k, rfl⟩ : ∃ n, k = n + 1 := ⟨k - 1, by omega⟩
    unfold hold_Year.l0
    rw [if_pos (by omega), if_pos (by omega), if_pos (by omega), rd49_drop hd, step_ok a b c (by omega)]
    simp only [Option.bind_some, yr]
    by_cases he : (step r W S p.f0 p.f1 p.f2).2.2.2 = 0
    · rw [if_pos he, if_pos he, if_pos (by omega), w64 (x := (i : Int) + 1) (by omega)]
      have := ih (i + 1) (acc ++ [(step r W S p.f0 p.f1 p.f2).1]) (step r W S p.f0 p.f1 p.f2).2.1 (step r W S p.f0 p.f1 p.f2).2.2.1 k (by rw [← List.drop_drop, hd]; rfl) (by omega) (by simp [ha]) (by omega)
      rw [show ((i + 1 : Nat) : Int) = (i : Int) + 1 by omega] at this
      exact this
    · rw [if_neg he, if_neg he]

theorem yr_pre (r : Int) : ∀ (ps : List S49) (acc : List Int) (W S : Int), (yr r ps acc W S).2.2.2 = 0 → ∃ t, (yr r ps acc W S).1 = acc ++ t ∧ t.length = ps.length := by
  intro ps
  induction ps with
  | nil => intro acc W S _; exact ⟨[], by simp [yr]⟩
  | cons p ps ih =>
    intro acc W S h
    simp only [yr] at h ⊢
    by_cases he : (step r W S p.f0 p.f1 p.f2).2.2.2 = 0
    · rw [if_pos he] at h ⊢
      obtain ⟨t, h1, h2⟩ := ih _ _ _ h
      exact ⟨(step r W S p.f0 p.f1 p.f2).1 :: t, by rw [h1]; simp, by simp [h2]⟩
    · rw [if_neg he] at h
      exact absurd h he

theorem step_sums {r W S cash due : Int} {back : Bool} (h : (step r W S cash due back).2.2.2 = 0) :
    (step r W S cash due back).2.1 = W + (step r W S cash due back).1 ∧ (step r W S cash due back).2.1 + (step r W S cash due back).2.2.1 = due ∧ okM (step r W S cash due back).2.1 ∧ okM due := by
  unfold step at h ⊢
  by_cases h1 : okM W ∧ okM S ∧ okM cash ∧ okM due
  · rw [if_pos h1] at h ⊢
    by_cases h2 : 0 ≤ r ∧ r ≤ 10000
    · rw [if_pos h2] at h ⊢
      by_cases h3 : okM (due - W) ∧ okM (W + held (due - W) (lim r cash) back) ∧ okM (due - W - held (due - W) (lim r cash) back)
      · rw [if_pos h3] at h ⊢
        exact ⟨rfl, by simp only []; omega, h3.2.1, h1.2.2.2⟩
      · rw [if_neg h3] at h; simp at h
    · rw [if_neg h2] at h; simp at h
  · rw [if_neg h1] at h; simp at h

theorem law_l0 {r : Int} (l : List S49) (hl : l.length ≤ 1000) (out : List Int) (e Wf Sf : Int) :
    ∀ (ps : List S49) (i : Nat) (acc : List Int) (W S : Int) (k : Nat), l.drop i = ps → i + ps.length = l.length → acc.length = i → 62 + ps.length ≤ k →
    yr r ps acc W S = (out, Wf, Sf, e) → (0 < i → W + S = (rd_T49 l ((i : Int) - 1)).f1 ∧ okM (W + S)) →
    stipendlaw14_HoldYear.l0 k l out e W l (l.length : Int) (i : Int) r 0 Wf Sf W S = some true := by
  intro ps
  induction ps with
  | nil =>
    intro i acc W S k hd hi ha hk hy hw
    obtain ⟨k, rfl⟩ : ∃ n, k = n + 1 := ⟨k - 1, by simp at hk; omega⟩
    simp only [List.length_nil, Nat.add_zero] at hi
    simp only [yr, Prod.mk.injEq] at hy
    obtain ⟨rfl, rfl, rfl, rfl⟩ := hy
    unfold stipendlaw14_HoldYear.l0
    rw [if_neg (by omega), if_pos rfl, if_neg (by simp), if_pos rfl, if_pos (by omega)]
    by_cases h0 : (l.length : Int) = 0
    · rw [if_pos h0]
    · rw [if_neg h0, w64 (x := (l.length : Int) - 1) (by omega)]
      obtain ⟨h1, h2⟩ := hw (by omega)
      have h2 := okM_bd h2
      unfold hold_State_Due.f
      rw [w64 (x := W + S) (by omega)]
      simp only [Option.bind_some]
      rw [if_pos (by omega), if_pos (by omega), ← hi, ← h1]
      simp
  | cons p ps ih =>
    intro i acc W S k hd hi ha hk hy hw
    simp only [List.length_cons] at hi hk
    obtain ⟨k, rfl⟩ : ∃ n, k = n + 1 := ⟨k - 1, by omega⟩
    unfold stipendlaw14_HoldYear.l0
    rw [if_pos (by omega), if_pos (by omega), if_pos (by omega), rd49_drop hd, step_ok _ _ _ (by omega)]
    simp only [Option.bind_some]
    by_cases he : (step r W S p.f0 p.f1 p.f2).2.2.2 = 0
    · obtain ⟨s1, s2, s3, s4⟩ := step_sums he
      have hw3 := okM_bd s3
      have goOn : stipendlaw14_HoldYear.l0 k l out e (wrap64 (W + (step r W S p.f0 p.f1 p.f2).1)) l (l.length : Int) (wrap64 ((i : Int) + 1)) r 0 Wf Sf (step r W S p.f0 p.f1 p.f2).2.1 (step r W S p.f0 p.f1 p.f2).2.2.1 = some true := by
        rw [← s1, w64 (x := (step r W S p.f0 p.f1 p.f2).2.1) (by omega), w64 (x := (i : Int) + 1) (by omega)]
        simp only [yr] at hy
        rw [if_pos he] at hy
        have := ih (i + 1) (acc ++ [(step r W S p.f0 p.f1 p.f2).1]) (step r W S p.f0 p.f1 p.f2).2.1 (step r W S p.f0 p.f1 p.f2).2.2.1 k (by rw [← List.drop_drop, hd]; rfl) (by omega) (by simp [ha]) (by omega) hy
          (fun _ => by rw [show ((i + 1 : Nat) : Int) - 1 = (i : Int) by omega, rd49_drop hd]; exact ⟨s2, by rw [s2]; exact s4⟩)
        rw [show ((i + 1 : Nat) : Int) = (i : Int) + 1 by omega] at this
        exact this
      rw [if_pos he]
      by_cases h8 : e = 0
      · rw [if_pos h8]
        have hy0 := hy
        simp only [yr] at hy0
        rw [if_pos he] at hy0
        obtain ⟨t, t1, t2⟩ := yr_pre r ps (acc ++ [(step r W S p.f0 p.f1 p.f2).1]) (step r W S p.f0 p.f1 p.f2).2.1 (step r W S p.f0 p.f1 p.f2).2.2.1 (by rw [hy0]; exact h8)
        rw [hy0] at t1
        simp only [] at t1
        have hlen : out.length = l.length := by rw [t1]; simp only [List.length_append, List.length_cons, List.length_nil]; omega
        rw [if_pos (by omega), if_pos (by omega), if_pos ?_]
        · exact goOn
        · unfold rd
          rw [t1, Int.toNat_natCast, List.getD_eq_getElem?_getD, List.append_assoc, List.getElem?_append_right (by omega)]
          simp [ha]
      · rw [if_neg h8]
        exact goOn
    · rw [if_neg he]
      simp only [yr] at hy
      rw [if_neg he] at hy
      simp only [Prod.mk.injEq] at hy
      obtain ⟨rfl, rfl, rfl, rfl⟩ := hy
      rw [if_pos rfl, if_pos (by simp)]
      simp

theorem HoldYear (r : Int) (l : List S49) : ∃ k, stipendlaw14_HoldYear.f k r l = some true := by
  refine ⟨200, ?_⟩
  unfold stipendlaw14_HoldYear.f
  rw [holds_ok (by omega)]
  simp only [Option.bind_some, if_true]
  by_cases hbig : (l.length : Int) > 60
  · rw [if_pos hbig]
  · rw [if_neg hbig]
    unfold hold_Year.f
    have h1 := year_l0 ([] : List (List S30)) ([] : List S130) ([] : List S132) (r := r) (z := 0) l (by omega) l 0 [] 0 0 200 rfl (by omega) rfl (by omega)
    rw [show ((0 : Nat) : Int) = 0 from rfl] at h1
    rw [h1]
    simp only [Option.bind_some]
    exact law_l0 l (by omega) _ _ _ _ l 0 [] 0 0 200 rfl (by omega) rfl (by omega) rfl (fun h => absurd h (by omega))

end Go.Proofs.Ytfiomckebicphaa.Pure
