/- The law DateTexts of the package stipendlaw03 holds for every input: any text is a day, or isn't one, and why; a day is written as a text that is read as that day. No condition. -/
import Derived.Test.YthfkfageehkhcaaX0
import Derived.Test.YthfkfageehkhcaaX13
import Derived.Test.YthfkfageehkhcaaX25
import Derived.Test.YthfkfageehkhcaaX26
import Derived.Test.YthfkfageehkhcaaMText
namespace Go.Proofs.Ythfkfageehkhcaa.Pure
open Go Go.RowKit Go.Proofs.Ythfkfageehkhcaa.X Go.Proofs.YthfkfageehkhcaaW.PrintWords Go.Proofs.YthfkfageehkhcaaW.PrintLast

theorem texts_j2 (y m d : Int) {k : Nat} (hk : 5 ≤ k) : stipendlaw03_DateTexts.j2 k y m d = some true := by
  obtain ⟨k, rfl⟩ : ∃ n, k = n + 1 := ⟨k - 1, by omega⟩
  simp only [stipendlaw03_DateTexts.j2]
  rw [rright_ok]
  simp only [Option.bind_some, decide_eq_true_eq]
  by_cases h : ok y m d
  · obtain ⟨hf, h1, h2, h3⟩ := txt_form h
    rw [if_pos h, text_ok h (by omega)]
    simp only [Option.bind_some]
    rw [parse_ok hf (by omega), h1, h2, h3, if_pos h]
    simp
  · rw [if_neg h]
/-- Is the byte at a place as a day's text has it? -/
def at_ (s : ByteArray) (i : Nat) : Prop := if i = 4 ∨ i = 7 then bt s i = 45 else isd s i
theorem form_at {s : ByteArray} (hs : s.size = 10) : form s ↔ ∀ i, i < 10 → at_ s i := by
  constructor
  · rintro ⟨_, h0, h1, h2, h3, h4, h5, h6, h7, h8, h9⟩ i hi
    obtain rfl | rfl | rfl | rfl | rfl | rfl | rfl | rfl | rfl | rfl : i = 0 ∨ i = 1 ∨ i = 2 ∨ i = 3 ∨ i = 4 ∨ i = 5 ∨ i = 6 ∨ i = 7 ∨ i = 8 ∨ i = 9 := by omega
    all_goals simp [at_]
    all_goals assumption
  · intro h
    have h0 := h 0 (by omega)
    have h1 := h 1 (by omega)
    have h2 := h 2 (by omega)
    have h3 := h 3 (by omega)
    have h4 := h 4 (by omega)
    have h5 := h 5 (by omega)
    have h6 := h 6 (by omega)
    have h7 := h 7 (by omega)
    have h8 := h 8 (by omega)
    have h9 := h 9 (by omega)
    simp [at_] at h0 h1 h2 h3 h4 h5 h6 h7 h8 h9
    exact ⟨hs, h0, h1, h2, h3, h4, h5, h6, h7, h8, h9⟩
/-- One more byte is looked at. -/
theorem texts_go {s : ByteArray} (hs : s.size = 10) {e p q r y m d : Int} (i : Nat) (hi : i < 10) (k : Nat) :
    ∃ b, (b = true ↔ at_ s i) ∧ stipendlaw03_DateTexts.l0 (k + 2) s e true i p q r y m d = stipendlaw03_DateTexts.l0 k s e b ((i + 1 : Nat) : Int) p q r y m d := by
  have hw : wrap64 ((i : Int) + 1) = ((i + 1 : Nat) : Int) := by rw [w64 (by omega)]; omega
  generalize hK : k + 1 = K
  rw [show k + 2 = K + 1 by omega]
  simp only [stipendlaw03_DateTexts.l0, if_true]
  subst hK
  rw [show decide ((i : Int) < 10) = true by simp; omega]
  simp only [stipendlaw03_DateTexts.j1, if_true]
  have hin : (i : Int) < (s.size : Int) := by rw [hs]; omega
  by_cases h4 : i = 4
  · have ha : at_ s i ↔ bt s i = 45 := by unfold at_; rw [if_pos (by omega)]
    rw [if_pos (by omega), if_pos (by omega), if_pos hin, hw, ha]
    exact ⟨_, by simp, rfl⟩
  · rw [if_neg (by omega)]
    by_cases h7 : i = 7
    · have ha : at_ s i ↔ bt s i = 45 := by unfold at_; rw [if_pos (by omega)]
      rw [if_pos (by omega), if_pos (by omega), if_pos hin, hw, ha]
      exact ⟨_, by simp, rfl⟩
    · have ha : at_ s i ↔ 48 ≤ bt s i ∧ bt s i ≤ 57 := by unfold at_; rw [if_neg (by omega)]; rfl
      rw [if_neg (by omega), if_pos (by omega), if_pos hin, hw, ha]
      by_cases h48 : bt s i ≥ 48
      · rw [if_pos h48]
        exact ⟨_, by simp; omega, rfl⟩
      · rw [if_neg h48]
        exact ⟨_, by simp; omega, rfl⟩
theorem texts_false {s : ByteArray} (i : Int) (y m d : Int) {k : Nat} (hk : 10 ≤ k) : stipendlaw03_DateTexts.l0 k s 5 false i y m d 0 0 0 = some true := by
  obtain ⟨k, rfl⟩ : ∃ n, k = n + 1 + 1 := ⟨k - 2, by omega⟩
  generalize hK : k + 1 = K
  simp only [stipendlaw03_DateTexts.l0, Bool.false_eq_true, if_false]
  subst hK
  simp only [stipendlaw03_DateTexts.j1, Bool.false_eq_true, if_false, if_true]
  rw [if_neg (by decide)]
  exact texts_j2 y m d (by omega)
theorem texts_run_no {s : ByteArray} (hs : s.size = 10) (hf : ¬ form s) (y m d : Int) : ∀ (j i k : Nat), i + j = 10 → 2 * j + 10 ≤ k → (∀ n, n < i → at_ s n) → stipendlaw03_DateTexts.l0 k s 5 true i y m d 0 0 0 = some true := by
  intro j
  induction j with
  | zero =>
    intro i k hi hk ha
    obtain rfl : i = 10 := by omega
    exact absurd ((form_at hs).2 ha) hf
  | succ j ih =>
    intro i k hi hk ha
    obtain ⟨k, rfl⟩ : ∃ n, k = n + 2 := ⟨k - 2, by omega⟩
    obtain ⟨b, hb, he⟩ := texts_go hs (e := 5) (p := y) (q := m) (r := d) (y := 0) (m := 0) (d := 0) i (by omega) k
    rw [he]
    cases b with
    | true => exact ih (i + 1) k (by omega) (by omega) (fun n hn => by
        by_cases h : n = i
        · rw [h]; exact hb.1 rfl
        · exact ha n (by omega))
    | false => exact texts_false _ y m d (by omega)
theorem texts_run_yes {s : ByteArray} (hs : s.size = 10) (hf : form s) {e p q r y m d : Int} : ∀ (j i k : Nat), i + j = 10 → stipendlaw03_DateTexts.l0 (k + 2 * j) s e true i p q r y m d = stipendlaw03_DateTexts.l0 k s e true (10 : Int) p q r y m d := by
  intro j
  induction j with
  | zero =>
    intro i k hi
    obtain rfl : i = 10 := by omega
    rfl
  | succ j ih =>
    intro i k hi
    obtain ⟨b, hb, he⟩ := texts_go hs (e := e) (p := p) (q := q) (r := r) (y := y) (m := m) (d := d) i (by omega) (k + 2 * j)
    have : b = true := hb.2 ((form_at hs).1 hf i (by omega))
    subst this
    rw [show k + 2 * (j + 1) = k + 2 * j + 2 by omega, he]
    exact ih (i + 1) k (by omega)
theorem txt_back {s : ByteArray} (h : form s) : txt (yy s) (mm s) (dd s) = s := by
  obtain ⟨h1, h2, h3, h4, h5, h6, h7, h8, h9, h10, h11⟩ := h
  unfold isd at *
  have e : ∀ (i : Nat) (hi : i < s.size) (n : Int), bt s i = 48 + n % 10 → dg n = s[i] := by
    intro i hi n hn
    rw [date_Parse.bt_nat s i hi] at hn
    apply UInt8.toNat_inj.1
    have := dg_nat n
    omega
  have e45 : ∀ (i : Nat) (hi : i < s.size), bt s i = 45 → (45 : UInt8) = s[i] := by
    intro i hi hn
    rw [date_Parse.bt_nat s i hi] at hn
    apply UInt8.toNat_inj.1
    have : (45 : UInt8).toNat = 45 := rfl
    omega
  apply ByteArray.ext
  apply Array.ext
  · exact h1.symm
  · intro i hi1 hi2
    have hi : i < 10 := hi1
    have hsi : i < s.size := hi2
    show (txt (yy s) (mm s) (dd s)).data[i] = s.data[i]
    obtain rfl | rfl | rfl | rfl | rfl | rfl | rfl | rfl | rfl | rfl : i = 0 ∨ i = 1 ∨ i = 2 ∨ i = 3 ∨ i = 4 ∨ i = 5 ∨ i = 6 ∨ i = 7 ∨ i = 8 ∨ i = 9 := by omega
    · exact e 0 hsi _ (by show bt s 0 = _; unfold yy; omega)
    · exact e 1 hsi _ (by show bt s 1 = _; unfold yy; omega)
    · exact e 2 hsi _ (by show bt s 2 = _; unfold yy; omega)
    · exact e 3 hsi _ (by show bt s 3 = _; unfold yy; omega)
    · exact e45 4 hsi h6
    · exact e 5 hsi _ (by show bt s 5 = _; unfold mm; omega)
    · exact e 6 hsi _ (by show bt s 6 = _; unfold mm; omega)
    · exact e45 7 hsi h9
    · exact e 8 hsi _ (by show bt s 8 = _; unfold dd; omega)
    · exact e 9 hsi _ (by show bt s 9 = _; unfold dd; omega)
theorem DateTexts : stipendlaw03_DateTexts.Pure := by
  intro s y m d _ _ _ _
  refine ⟨58 + 2 * 10, ?_⟩
  unfold stipendlaw03_DateTexts.f
  rw [days_ok (by omega)]
  simp only [Option.bind_some, if_true]
  by_cases h60 : (s.size : Int) > 60
  · rw [if_pos h60]
  · rw [if_neg h60]
    by_cases hf : form s
    · have hs := hf.1
      rw [parse_ok hf (by omega), show ((s.size : Int) == 10) = true by rw [hs]; rfl]
      simp only [Option.bind_some]
      have run := fun (e x1 x2 x3 : Int) => texts_run_yes hs hf (e := e) (p := y) (q := m) (r := d) (y := x1) (m := x2) (d := x3) 10 0 58 (by omega)
      have z : ((0 : Nat) : Int) = 0 := rfl
      rw [z] at run
      rw [run]
      obtain ⟨K, hK⟩ : ∃ K, K = 56 := ⟨56, rfl⟩
      rw [show (58 : Nat) = K + 1 + 1 by omega]
      have h10 : decide ((10 : Int) < 10) = false := by decide
      generalize hK1 : K + 1 = K1
      simp only [stipendlaw03_DateTexts.l0, if_true, h10]
      subst hK1
      have hsz : ∀ n : Int, n < 10 → n < (s.size : Int) := by intro n hn; rw [hs]; omega
      have hlen : (s.size : Int) = 10 := by rw [hs]; rfl
      simp only [stipendlaw03_DateTexts.j1, Bool.false_eq_true, if_false, if_true]
      obtain ⟨h1, h2, h3, h4, h5, h6, h7, h8, h9, h10, h11⟩ := hf
      by_cases ho : ok (yy s) (mm s) (dd s)
      · simp only [ho, if_true]
        rw [text_ok ho (by omega), rright_ok, txt_back ⟨h1, h2, h3, h4, h5, h6, h7, h8, h9, h10, h11⟩]
        simp only [Option.bind_some, if_true, ho, decide_true]
        exact texts_j2 y m d (by omega)
      · simp only [ho, if_false]
        rw [if_neg (by decide), if_pos (hsz 0 (by omega)), if_pos (hsz 1 (by omega)), if_pos (hsz 2 (by omega)), if_pos (hsz 3 (by omega))]
        simp only [if_true]
        rw [if_neg (by decide), if_pos (hsz 5 (by omega)), if_pos (hsz 6 (by omega)), if_pos (hsz 8 (by omega)), if_pos (hsz 9 (by omega)), rright_ok]
        unfold isd at *
        have ey : ((bt s 0 - 48) % 256 * 1000 + (bt s 1 - 48) % 256 * 100 + (bt s 2 - 48) % 256 * 10 + (bt s 3 - 48) % 256) = yy s := by unfold yy; omega
        have em : ((bt s 5 - 48) % 256 * 10 + (bt s 6 - 48) % 256) = mm s := by unfold mm; omega
        have ed : ((bt s 8 - 48) % 256 * 10 + (bt s 9 - 48) % 256) = dd s := by unfold dd; omega
        rw [ey, em, ed]
        simp only [Option.bind_some, ho, decide_false, Bool.false_eq_true, if_false]
        exact texts_j2 y m d (by omega)
    · rw [parse_no hf]
      simp only [Option.bind_some]
      by_cases hs : s.size = 10
      · rw [show ((s.size : Int) == 10) = true by rw [hs]; rfl]
        exact texts_run_no hs hf y m d 10 0 (58 + 2 * 10) (by omega) (by omega) (by omega)
      · rw [show ((s.size : Int) == 10) = false by simp; omega]
        exact texts_false 0 y m d (by omega)

end Go.Proofs.Ythfkfageehkhcaa.Pure
