/- Plain facts on days: a day as it is written, and read. -/
import Derived.Test.YthfkfageehkhcaaX0
import Derived.Test.YthfkfageehkhcaaX9
import Derived.Test.YthfkfageehkhcaaX10
import Derived.Test.YthfkfageehkhcaaX13
import Derived.Test.YthfkfageehkhcaaMDate
namespace Go.Proofs.Ythfkfageehkhcaa.Pure
open Go Go.RowKit Go.Proofs.Ythfkfageehkhcaa.X Go.Proofs.YthfkfageehkhcaaW.PrintWords Go.Proofs.YthfkfageehkhcaaW.PrintLast

/-- A number's last digit, as it is written. -/
def dg (n : Int) : UInt8 := UInt8.ofNat (48 + n % 10).toNat
theorem dg_nat (n : Int) : ((dg n).toNat : Int) = 48 + n % 10 := by
  have h1 : (48 + n % 10).toNat < 256 := by omega
  unfold dg
  rw [UInt8.toNat_ofNat', Nat.mod_eq_of_lt h1]
  omega
theorem two_ok {n : Int} (h : 0 ≤ n ∧ n ≤ 9999) : date_two.f n = some ⟨#[dg (n / 10), dg n]⟩ := by
  unfold date_two.f strOfNums dg
  rw [tdivp h.1, w64 (x := n / 10) (by omega), tmodp (by omega), tmodp h.1, w64 (x := 48 + n / 10 % 10) (by omega), w64 (x := 48 + n % 10) (by omega),
    Int.emod_eq_of_lt (a := 48 + n / 10 % 10) (by omega) (by omega), Int.emod_eq_of_lt (a := 48 + n % 10) (by omega) (by omega)]
  rfl
/-- A day as it is written. -/
def txt (y m d : Int) : ByteArray := ⟨#[dg (y / 1000), dg (y / 100), dg (y / 10), dg y, 45, dg (m / 10), dg m, 45, dg (d / 10), dg d]⟩
theorem text_ok {y m d : Int} (h : ok y m d) {k : Nat} (hk : 3 ≤ k) : date_Text.f k y m d = some (txt y m d) := by
  have hb := ok_bd h
  unfold date_Text.f
  rw [right_ok hk, tdivp (by omega), w64 (x := y / 100) (by omega), two_ok (n := y / 100) (by omega), two_ok (n := y) (by omega), two_ok (n := m) (by omega), two_ok (n := d) (by omega)]
  simp only [h, decide_true, Option.bind_some, if_true]
  rw [show y / 100 / 10 = y / 1000 by omega]
  have ap : ∀ (a b : Array UInt8), (⟨a⟩ : ByteArray) ++ ⟨b⟩ = ⟨a ++ b⟩ := fun a b => ByteArray.ext (by simp)
  simp only [ap]
  have sz : ∀ (a : Array UInt8), (⟨a⟩ : ByteArray).size = a.size := fun _ => rfl
  simp only [sz]
  rw [if_pos (by simp), if_pos (by simp), if_pos (by simp), if_pos (by simp), if_pos (by simp)]
  rfl
theorem text_no {y m d : Int} (h : ¬ ok y m d) {k : Nat} (hk : 3 ≤ k) : date_Text.f k y m d = some ⟨#[]⟩ := by
  unfold date_Text.f
  rw [right_ok hk]
  simp [h]
theorem txt_size (y m d : Int) : (txt y m d).size = 10 := rfl
theorem txt_bt (y m d : Int) : bt (txt y m d) 0 = 48 + y / 1000 % 10 ∧ bt (txt y m d) 1 = 48 + y / 100 % 10 ∧ bt (txt y m d) 2 = 48 + y / 10 % 10 ∧ bt (txt y m d) 3 = 48 + y % 10 ∧ bt (txt y m d) 4 = 45 ∧
    bt (txt y m d) 5 = 48 + m / 10 % 10 ∧ bt (txt y m d) 6 = 48 + m % 10 ∧ bt (txt y m d) 7 = 45 ∧ bt (txt y m d) 8 = 48 + d / 10 % 10 ∧ bt (txt y m d) 9 = 48 + d % 10 := by
  have e : ∀ (i : Nat) (h : i < (txt y m d).size), bt (txt y m d) i = (((txt y m d)[i]'h).toNat : Int) := fun i h => date_Parse.bt_nat _ i h
  refine ⟨?_, ?_, ?_, ?_, ?_, ?_, ?_, ?_, ?_, ?_⟩
  · exact (e 0 (by rw [txt_size]; decide)).trans (dg_nat _)
  · exact (e 1 (by rw [txt_size]; decide)).trans (dg_nat _)
  · exact (e 2 (by rw [txt_size]; decide)).trans (dg_nat _)
  · exact (e 3 (by rw [txt_size]; decide)).trans (dg_nat _)
  · exact (e 4 (by rw [txt_size]; decide)).trans rfl
  · exact (e 5 (by rw [txt_size]; decide)).trans (dg_nat _)
  · exact (e 6 (by rw [txt_size]; decide)).trans (dg_nat _)
  · exact (e 7 (by rw [txt_size]; decide)).trans rfl
  · exact (e 8 (by rw [txt_size]; decide)).trans (dg_nat _)
  · exact (e 9 (by rw [txt_size]; decide)).trans (dg_nat _)
/-- Is the byte at a place a digit? -/
def isd (s : ByteArray) (i : Int) : Prop := 48 ≤ bt s i ∧ bt s i ≤ 57
instance (s : ByteArray) (i : Int) : Decidable (isd s i) := by unfold isd; exact inferInstance
theorem part_step {s : ByteArray} {k lo : Nat} {acc : Int} : date_Parse.part s (k + 1) lo acc = if isd s lo then date_Parse.part s k (lo + 1) (10 * acc + (bt s lo - 48)) else none := by
  unfold isd
  simp only [date_Parse.part]
  by_cases h1 : 48 ≤ bt s lo
  · by_cases h2 : bt s lo ≤ 57 <;> simp [h1, h2]
  · simp [h1]
/-- Has a text the form of a day? -/
def form (s : ByteArray) : Prop := s.size = 10 ∧ isd s 0 ∧ isd s 1 ∧ isd s 2 ∧ isd s 3 ∧ bt s 4 = 45 ∧ isd s 5 ∧ isd s 6 ∧ bt s 7 = 45 ∧ isd s 8 ∧ isd s 9
def yy (s : ByteArray) : Int := 10 * (10 * (10 * (bt s 0 - 48) + (bt s 1 - 48)) + (bt s 2 - 48)) + (bt s 3 - 48)
def mm (s : ByteArray) : Int := 10 * (bt s 5 - 48) + (bt s 6 - 48)
def dd (s : ByteArray) : Int := 10 * (bt s 8 - 48) + (bt s 9 - 48)
theorem part_y (s : ByteArray) : date_Parse.part s 4 0 0 = if isd s 0 ∧ isd s 1 ∧ isd s 2 ∧ isd s 3 then some (yy s) else none := by
  rw [part_step, part_step, part_step, part_step]
  simp only [date_Parse.part, yy, Int.mul_zero, Int.zero_add]
  by_cases h0 : isd s 0
  · by_cases h1 : isd s 1
    · by_cases h2 : isd s 2
      · by_cases h3 : isd s 3 <;> simp [h0, h1, h2, h3]
      · simp [h0, h1, h2]
    · simp [h0, h1]
  · simp [h0]
theorem part_m (s : ByteArray) : date_Parse.part s 2 5 0 = if isd s 5 ∧ isd s 6 then some (mm s) else none := by
  rw [part_step, part_step]
  simp only [date_Parse.part, mm, Int.mul_zero, Int.zero_add]
  by_cases h0 : isd s 5
  · by_cases h1 : isd s 6 <;> simp [h0, h1]
  · simp [h0]
theorem part_d (s : ByteArray) : date_Parse.part s 2 8 0 = if isd s 8 ∧ isd s 9 then some (dd s) else none := by
  rw [part_step, part_step]
  simp only [date_Parse.part, dd, Int.mul_zero, Int.zero_add]
  by_cases h0 : isd s 8
  · by_cases h1 : isd s 9 <;> simp [h0, h1]
  · simp [h0]
theorem parse_ok {s : ByteArray} (h : form s) {k : Nat} (hk : 3 ≤ k) : date_Parse.f k s = some (if ok (yy s) (mm s) (dd s) then (yy s, mm s, dd s, 0) else (0, 0, 0, 30)) := by
  obtain ⟨h1, h2, h3, h4, h5, h6, h7, h8, h9, h10, h11⟩ := h
  rw [date_Parse.good k s h1 h6 h9 (a := yy s) (b := mm s) (c := dd s) (by rw [part_y, if_pos ⟨h2, h3, h4, h5⟩]) (by rw [part_m, if_pos ⟨h7, h8⟩]) (by rw [part_d, if_pos ⟨h10, h11⟩]), right_ok hk]
  simp only [Option.bind_some, decide_eq_true_eq]
  by_cases ho : ok (yy s) (mm s) (dd s) <;> simp [ho]
theorem parse_no {s : ByteArray} (h : ¬ form s) (k : Nat) : date_Parse.f k s = some (0, 0, 0, 5) := by
  unfold date_Parse.f
  by_cases h1 : s.size = 10
  · by_cases h2 : bt s 4 = 45
    · by_cases h3 : bt s 7 = 45
      · rw [if_pos h1, if_pos h2, if_pos h3, part_y, part_m, part_d]
        by_cases h4 : isd s 0 ∧ isd s 1 ∧ isd s 2 ∧ isd s 3
        · rw [if_pos h4]
          by_cases h5 : isd s 5 ∧ isd s 6
          · rw [if_pos h5]
            by_cases h6 : isd s 8 ∧ isd s 9
            · exact absurd ⟨h1, h4.1, h4.2.1, h4.2.2.1, h4.2.2.2, h2, h5.1, h5.2, h3, h6.1, h6.2⟩ h
            · rw [if_neg h6]
          · rw [if_neg h5]
        · rw [if_neg h4]
      · rw [if_pos h1, if_pos h2, if_neg h3]
    · rw [if_pos h1, if_neg h2]
  · rw [if_neg h1]
/-- A day is written as a text that is read as that day. -/
theorem txt_form {y m d : Int} (h : ok y m d) : form (txt y m d) ∧ yy (txt y m d) = y ∧ mm (txt y m d) = m ∧ dd (txt y m d) = d := by
  have hb := ok_bd h
  obtain ⟨e0, e1, e2, e3, e4, e5, e6, e7, e8, e9⟩ := txt_bt y m d
  unfold form isd yy mm dd
  rw [e0, e1, e2, e3, e4, e5, e6, e7, e8, e9]
  refine ⟨⟨rfl, ?_⟩, ?_, ?_, ?_⟩
  · omega
  · omega
  · omega
  · omega
end Go.Proofs.Ythfkfageehkhcaa.Pure
