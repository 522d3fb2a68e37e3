/- The law FracAdds of the package stipendlaw02 holds for every input: exact amounts together, one by one, are their sum, if each on the way may be; in least coins they are rounded. No condition. -/
import Derived.Test.YtfiomckebicphaaX8
import Derived.Test.YtfiomckebicphaaMAdd
namespace Go.Proofs.Ytfiomckebicphaa.Pure
open Go.RowKit Go.Proofs.Ytfiomckebicphaa.X Go.Proofs.YtfiomckebicphaaW.PrintWords Go.Proofs.YtfiomckebicphaaW.PrintLast

theorem adds_end (l : List Int) (hl : l.length ≤ 60) (m s : Int) (may : Bool) (_ : -9223372036854775808 ≤ m ∧ m ≤ 9223372036854775807) (hs : may = true → okE s)
    (h : addS l 0 = if may = true then (s, 0) else (0, 10)) (i : Int) (hi : ¬ i < l.length) (k : Nat) : stipendlaw02_FracAdds.l0 (k + 62) m l s may l (l.length : Int) i = some true := by
  rw [show k + 62 = (k + 61) + 1 from rfl]
  have ha := add_ok l hl k
  have hr : may = true → ∃ r, frac_Round.f (k + 61) s 10000 m = some r := fun h' => by
    have := hs h'
    unfold okE at this
    exact round_some s 10000 m (by omega) (by omega) (k + 60)
  generalize k + 61 = K at ha hr ⊢
  simp only [stipendlaw02_FracAdds.l0]
  rw [if_neg hi, ha, h]
  cases may with
  | true =>
    obtain ⟨r, hr⟩ := hr rfl
    have := hs rfl
    unfold okE at this
    simp only [if_true, Option.bind_some]
    rw [coins_ok this, hr]
    simp
  | false => simp
theorem adds_run (l : List Int) (hl : l.length ≤ 60) (m : Int) (hm : -9223372036854775808 ≤ m ∧ m ≤ 9223372036854775807) : ∀ (d : Nat) (i k : Nat) (s : Int) (may : Bool), i + d = l.length → 2 * d + 62 ≤ k →
    (may = true → okE s) → (addS l 0 = if may = true then addS (l.drop i) s else (0, 10)) → stipendlaw02_FracAdds.l0 k m (l.take i) s may l (l.length : Int) (i : Int) = some true := by
  intro d
  induction d with
  | zero =>
    intro i k s may hi hk hs h
    obtain ⟨k, rfl⟩ : ∃ m, k = m + 62 := ⟨k - 62, by omega⟩
    rw [List.take_of_length_le (by omega)]
    rw [List.drop_of_length_le (by omega)] at h
    exact adds_end l hl m s may hm hs h i (by omega) k
  | succ d ih =>
    intro i k s may hi hk hs h
    obtain ⟨k, rfl⟩ : ∃ m, k = m + 1 + 1 := ⟨k - 2, by omega⟩
    have hlt : i < l.length := by omega
    have hrd : rd l (i : Int) = l[i] := by simp [rd, hlt]
    have hdr : l.drop i = l[i] :: l.drop (i + 1) := List.drop_eq_getElem_cons hlt
    have htk : l.take i ++ [l[i]] = l.take (i + 1) := (List.take_succ_eq_append_getElem hlt).symm
    have hw : wrap64 ((i : Int) + 1) = ((i + 1 : Nat) : Int) := by rw [w64 (by omega)]; omega
    rw [hdr] at h
    simp only [addS] at h
    have hle : (l.take i).length < 17592186044416 := by rw [List.length_take]; omega
    have key : ∀ (s' : Int) (may' : Bool), (may' = true → okE s') → (addS l 0 = if may' = true then addS (l.drop (i + 1)) s' else (0, 10)) →
        stipendlaw02_FracAdds.l0 k m (l.take (i + 1)) s' may' l (l.length : Int) ((i + 1 : Nat) : Int) = some true := fun s' may' h1 h2 => ih (i + 1) k s' may' (by omega) (by omega) h1 h2
    generalize hK : k + 1 = K
    simp only [stipendlaw02_FracAdds.l0]
    rw [if_pos (by omega), if_pos (by omega), if_pos (by omega), if_pos hle, hrd, htk]
    subst hK
    simp only [Option.bind_some]
    cases may with
    | false =>
      simp only [Bool.false_eq_true, if_false, stipendlaw02_FracAdds.j1]
      rw [hw]
      exact key s false (fun h => by cases h) (by simpa using h)
    | true =>
      have hs' := hs rfl
      unfold okE at hs'
      simp only [if_true] at h ⊢
      by_cases h1 : l[i] > 1000000000000000
      · rw [if_pos h1]
        simp only [stipendlaw02_FracAdds.j1, if_true]
        rw [hw]
        rw [if_neg (fun h' => by unfold okE at h'; omega)] at h
        exact key s false (fun h => by cases h) (by simpa using h)
      · rw [if_neg h1]
        by_cases h2 : l[i] < -1000000000000000
        · rw [show decide (l[i] < -1000000000000000) = true by simpa using h2]
          simp only [stipendlaw02_FracAdds.j1, if_true]
          rw [hw]
          rw [if_neg (fun h' => by unfold okE at h'; omega)] at h
          exact key s false (fun h => by cases h) (by simpa using h)
        · rw [show decide (l[i] < -1000000000000000) = false by simpa using h2]
          rw [if_pos (by unfold okE; omega)] at h
          simp only [stipendlaw02_FracAdds.j1, Bool.false_eq_true, if_false, if_true]
          rw [w64 (x := s + l[i]) (by omega), hw]
          by_cases h3 : s + l[i] ≤ 1000000000000000
          · rw [if_pos h3]
            by_cases h4 : s + l[i] ≥ -1000000000000000
            · rw [show decide (s + l[i] ≥ -1000000000000000) = true by simpa using h4]
              rw [if_pos (by unfold okE; omega)] at h
              exact key _ true (fun _ => by unfold okE; omega) (by simpa using h)
            · rw [show decide (s + l[i] ≥ -1000000000000000) = false by simpa using h4]
              rw [if_neg (fun h' => by unfold okE at h'; omega)] at h
              exact key _ false (fun h => by cases h) (by simpa using h)
          · rw [if_neg h3]
            rw [if_neg (fun h' => by unfold okE at h'; omega)] at h
            exact key _ false (fun h => by cases h) (by simpa using h)
theorem FracAdds : stipendlaw02_FracAdds.Pure := by
  intro l m _ _ _ hm
  have hm := wf64 hm
  refine ⟨130 + 70, ?_⟩
  unfold stipendlaw02_FracAdds.f
  rw [parts_ok 130]
  simp only [Option.bind_some, if_true]
  by_cases hl : (l.length : Int) > 60
  · rw [if_pos hl]
  · rw [if_neg hl]
    have := adds_run l (by omega) m hm l.length 0 (130 + 70) 0 true (by omega) (by omega) (fun _ => by unfold okE; omega) (by simp)
    simpa using this

end Go.Proofs.Ytfiomckebicphaa.Pure
