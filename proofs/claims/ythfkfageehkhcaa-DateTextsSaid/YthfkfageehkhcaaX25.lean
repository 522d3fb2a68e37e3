-- laid by the session's own program (xprint.py) out of Lean's print of the program; Lean checks it
import Derived.Test.YthfkfageehkhcaaX0
import Derived.Test.YthfkfageehkhcaaX1
import Derived.Test.YthfkfageehkhcaaX10
import Derived.Test.YthfkfageehkhcaaX13
import Derived.Test.YthfkfageehkhcaaX15
import Derived.Test.YthfkfageehkhcaaX18
namespace Go.Proofs.Ythfkfageehkhcaa.X
open Go.RowKit Go.Proofs.YthfkfageehkhcaaW.PrintWords Go.Proofs.YthfkfageehkhcaaW.PrintLast Go.Proofs.YthfkfageehkhcaaW.PrintMore
attribute [local go_sem] max2_int min2_int max_two min_two max_three min_three max_four min_four   -- for this text's walks alone
set_option linter.unusedVariables false
set_option linter.unusedSimpArgs false

attribute [local go_sem high] eqA23
/-! ### stipendlaw03_DateTexts: function 6 -/
theorem u8w_eq (x : Int) : IntKind.u8.wrap x = x % 256 := by simp [IntKind.wrap, IntKind.signed, IntKind.bits]
theorem agg3_eq {a b c a' b' c' : Int} (h1 : a = a') (h2 : b = b') (h3 : c = c') : #[Value.agg #[.int .i64 a, .int .i64 b, .int .i64 c]] = #[Value.agg #[.int .i64 a', .int .i64 b', .int .i64 c']] := by rw [h1, h2, h3]
theorem d4_eq (a b c d : Int) : wrap64 (wrap64 (wrap64 (wrap64 (wrap64 (IntKind.u8.wrap a) * 1000) + wrap64 (wrap64 (IntKind.u8.wrap b) * 100)) + wrap64 (wrap64 (IntKind.u8.wrap c) * 10)) + wrap64 (IntKind.u8.wrap d)) = a % 256 * 1000 + b % 256 * 100 + c % 256 * 10 + d % 256 := by
  simp only [u8w_eq]
  unfold wrap64
  omega
theorem d2_eq (a b : Int) : wrap64 (wrap64 (wrap64 (IntKind.u8.wrap a) * 10) + wrap64 (IntKind.u8.wrap b)) = a % 256 * 10 + b % 256 := by
  simp only [u8w_eq]
  unfold wrap64
  omega
mutual
def stipendlaw03_DateTexts.l0 : Nat → ByteArray → Int → Bool → Int → Int → Int → Int → Int → Int → Int → Option (Bool)
  | 0, _, _, _, _, _, _, _, _, _, _ => none
  | k + 1, x0, x6, x7, x8, x225000, x225001, x225002, x231000, x231001, x231002 => if x7 = true then (stipendlaw03_DateTexts.j1 k x0 x6 x7 x8 (decide (x8 < 10)) x225000 x225001 x225002 x231000 x231001 x231002) else (stipendlaw03_DateTexts.j1 k x0 x6 x7 x8 false x225000 x225001 x225002 x231000 x231001 x231002)
def stipendlaw03_DateTexts.j1 : Nat → ByteArray → Int → Bool → Int → Bool → Int → Int → Int → Int → Int → Int → Option (Bool)
  | 0, _, _, _, _, _, _, _, _, _, _, _ => none
  | k + 1, x0, x6, x7, x8, x29, x225000, x225001, x225002, x231000, x231001, x231002 => if x29 = true then (if x8 = 4 then (if 0 ≤ x8 then (if x8 < (x0.size : Int) then (stipendlaw03_DateTexts.l0 k x0 x6 ((bt x0 x8) == 45) (wrap64 (x8 + 1)) x225000 x225001 x225002 x231000 x231001 x231002) else (none)) else (none)) else (if x8 = 7 then (if 0 ≤ x8 then (if x8 < (x0.size : Int) then (stipendlaw03_DateTexts.l0 k x0 x6 ((bt x0 x8) == 45) (wrap64 (x8 + 1)) x225000 x225001 x225002 x231000 x231001 x231002) else (none)) else (none)) else (if 0 ≤ x8 then (if x8 < (x0.size : Int) then (if (bt x0 x8) ≥ 48 then (stipendlaw03_DateTexts.l0 k x0 x6 (decide ((bt x0 x8) ≤ 57)) (wrap64 (x8 + 1)) x225000 x225001 x225002 x231000 x231001 x231002) else (stipendlaw03_DateTexts.l0 k x0 x6 false (wrap64 (x8 + 1)) x225000 x225001 x225002 x231000 x231001 x231002)) else (none)) else (none)))) else (if x7 = true then (if x6 = 0 then ((date_Text.f k x231000 x231001 x231002).bind fun t231 => (if t231.toList = x0.toList then ((stipendref03_Right.f x231000 x231001 x231002).bind fun t232 => (if t232 = true then (stipendlaw03_DateTexts.j2 k x225000 x225001 x225002) else (some false))) else (some false))) else (if 0 < (x0.size : Int) then (if 1 < (x0.size : Int) then (if 2 < (x0.size : Int) then (if 3 < (x0.size : Int) then (if x6 = 30 then (if (!(x231000 == 0) || (!(x231001 == 0) || (!(x231002 == 0)))) = true then (some false) else (if 5 < (x0.size : Int) then (if 6 < (x0.size : Int) then (if 8 < (x0.size : Int) then (if 9 < (x0.size : Int) then ((stipendref03_Right.f (((((((bt x0 0) - 48) % 256) * 1000) + ((((bt x0 1) - 48) % 256) * 100)) + ((((bt x0 2) - 48) % 256) * 10)) + (((bt x0 3) - 48) % 256)) (((((bt x0 5) - 48) % 256) * 10) + (((bt x0 6) - 48) % 256)) (((((bt x0 8) - 48) % 256) * 10) + (((bt x0 9) - 48) % 256))).bind fun t233 => (if t233 = true then (some false) else (stipendlaw03_DateTexts.j2 k x225000 x225001 x225002))) else (none)) else (none)) else (none)) else (none))) else (some false)) else (none)) else (none)) else (none)) else (none))) else (if x6 = 5 then (if (!(x231000 == 0) || (!(x231001 == 0) || (!(x231002 == 0)))) = true then (some false) else (stipendlaw03_DateTexts.j2 k x225000 x225001 x225002)) else (some false)))
def stipendlaw03_DateTexts.j2 : Nat → Int → Int → Int → Option (Bool)
  | 0, _, _, _ => none
  | k + 1, x225000, x225001, x225002 => (stipendref03_Right.f x225000 x225001 x225002).bind fun t234 => (if t234 = true then ((date_Text.f k x225000 x225001 x225002).bind fun t235 => ((date_Parse.f k t235).bind fun bt236 => (if bt236.2.2.2 = 0 then (some (bt236.1 == x225000 && (bt236.2.1 == x225001 && (bt236.2.2.1 == x225002)))) else (some false)))) else (some true))
end
def stipendlaw03_DateTexts.f (k : Nat) (a0 : ByteArray) (a1_0 : Int) (a1_1 : Int) (a1_2 : Int) : Option (Bool) := (stipendlaw03_days.f k).bind fun t225 => (if t225 = true then (if (a0.size : Int) > 60 then (some true) else ((date_Parse.f k a0).bind fun bt226 => (stipendlaw03_DateTexts.l0 k a0 bt226.2.2.2 ((a0.size : Int) == 10) 0 a1_0 a1_1 a1_2 bt226.1 bt226.2.1 bt226.2.2.1))) else (some false))
theorem stipendlaw03_DateTexts.mono_l : ∀ k, (∀ y0 y1 y2 y3 y4 y5 y6 y7 y8 y9, LeO (stipendlaw03_DateTexts.l0 k y0 y1 y2 y3 y4 y5 y6 y7 y8 y9) (stipendlaw03_DateTexts.l0 (k + 1) y0 y1 y2 y3 y4 y5 y6 y7 y8 y9)) ∧ (∀ y0 y1 y2 y3 y4 y5 y6 y7 y8 y9 y10, LeO (stipendlaw03_DateTexts.j1 k y0 y1 y2 y3 y4 y5 y6 y7 y8 y9 y10) (stipendlaw03_DateTexts.j1 (k + 1) y0 y1 y2 y3 y4 y5 y6 y7 y8 y9 y10)) ∧ (∀ y0 y1 y2, LeO (stipendlaw03_DateTexts.j2 k y0 y1 y2) (stipendlaw03_DateTexts.j2 (k + 1) y0 y1 y2))
  | 0 => ⟨fun _ _ _ _ _ _ _ _ _ _ r h => by simp [stipendlaw03_DateTexts.l0] at h, fun _ _ _ _ _ _ _ _ _ _ _ r h => by simp [stipendlaw03_DateTexts.j1] at h, fun _ _ _ r h => by simp [stipendlaw03_DateTexts.j2] at h⟩
  | k + 1 => by
    obtain ⟨ih0, ih1, ih2⟩ := stipendlaw03_DateTexts.mono_l k
    refine ⟨?_, ?_, ?_⟩
    · intro y0 y1 y2 y3 y4 y5 y6 y7 y8 y9
      unfold stipendlaw03_DateTexts.l0
      repeat' first
      | (with_reducible exact ih0 _ _ _ _ _ _ _ _ _ _)
      | (with_reducible exact ih1 _ _ _ _ _ _ _ _ _ _ _)
      | (with_reducible exact ih2 _ _ _)
      | (with_reducible exact date_Parse.mono _ _)
      | (with_reducible exact date_Text.mono _ _ _ _)
      | (with_reducible exact stipendlaw03_days.mono _)
      | (with_reducible exact LeO.refl _)
      | (with_reducible exact LeO.none _)
      | (with_reducible refine LeO.ite ?_ ?_)
      | (with_reducible refine LeO.bind ?_ (fun _ => ?_))
      | exact ih0 _ _ _ _ _ _ _ _ _ _
      | exact ih1 _ _ _ _ _ _ _ _ _ _ _
      | exact ih2 _ _ _
      | exact date_Parse.mono _ _
      | exact date_Text.mono _ _ _ _
      | exact stipendlaw03_days.mono _
      | exact LeO.none _
      | refine LeO.ite ?_ ?_
      | refine LeO.bind ?_ (fun _ => ?_)
    · intro y0 y1 y2 y3 y4 y5 y6 y7 y8 y9 y10
      unfold stipendlaw03_DateTexts.j1
      repeat' first
      | (with_reducible exact ih0 _ _ _ _ _ _ _ _ _ _)
      | (with_reducible exact ih1 _ _ _ _ _ _ _ _ _ _ _)
      | (with_reducible exact ih2 _ _ _)
      | (with_reducible exact date_Parse.mono _ _)
      | (with_reducible exact date_Text.mono _ _ _ _)
      | (with_reducible exact stipendlaw03_days.mono _)
      | (with_reducible exact LeO.refl _)
      | (with_reducible exact LeO.none _)
      | (with_reducible refine LeO.ite ?_ ?_)
      | (with_reducible refine LeO.bind ?_ (fun _ => ?_))
      | exact ih0 _ _ _ _ _ _ _ _ _ _
      | exact ih1 _ _ _ _ _ _ _ _ _ _ _
      | exact ih2 _ _ _
      | exact date_Parse.mono _ _
      | exact date_Text.mono _ _ _ _
      | exact stipendlaw03_days.mono _
      | exact LeO.none _
      | refine LeO.ite ?_ ?_
      | refine LeO.bind ?_ (fun _ => ?_)
    · intro y0 y1 y2
      unfold stipendlaw03_DateTexts.j2
      repeat' first
      | (with_reducible exact ih0 _ _ _ _ _ _ _ _ _ _)
      | (with_reducible exact ih1 _ _ _ _ _ _ _ _ _ _ _)
      | (with_reducible exact ih2 _ _ _)
      | (with_reducible exact date_Parse.mono _ _)
      | (with_reducible exact date_Text.mono _ _ _ _)
      | (with_reducible exact stipendlaw03_days.mono _)
      | (with_reducible exact LeO.refl _)
      | (with_reducible exact LeO.none _)
      | (with_reducible refine LeO.ite ?_ ?_)
      | (with_reducible refine LeO.bind ?_ (fun _ => ?_))
      | exact ih0 _ _ _ _ _ _ _ _ _ _
      | exact ih1 _ _ _ _ _ _ _ _ _ _ _
      | exact ih2 _ _ _
      | exact date_Parse.mono _ _
      | exact date_Text.mono _ _ _ _
      | exact stipendlaw03_days.mono _
      | exact LeO.none _
      | refine LeO.ite ?_ ?_
      | refine LeO.bind ?_ (fun _ => ?_)
theorem stipendlaw03_DateTexts.mono : ∀ a0 a1 a2 a3 k, LeO (stipendlaw03_DateTexts.f k a0 a1 a2 a3) (stipendlaw03_DateTexts.f (k + 1) a0 a1 a2 a3) := by
  intro a0 a1 a2 a3 k
  obtain ⟨ih0, ih1, ih2⟩ := stipendlaw03_DateTexts.mono_l k
  unfold stipendlaw03_DateTexts.f
  repeat' first
      | (with_reducible exact ih0 _ _ _ _ _ _ _ _ _ _)
      | (with_reducible exact ih1 _ _ _ _ _ _ _ _ _ _ _)
      | (with_reducible exact ih2 _ _ _)
      | (with_reducible exact date_Parse.mono _ _)
      | (with_reducible exact date_Text.mono _ _ _ _)
      | (with_reducible exact stipendlaw03_days.mono _)
      | (with_reducible exact LeO.refl _)
      | (with_reducible exact LeO.none _)
      | (with_reducible refine LeO.ite ?_ ?_)
      | (with_reducible refine LeO.bind ?_ (fun _ => ?_))
      | exact ih0 _ _ _ _ _ _ _ _ _ _
      | exact ih1 _ _ _ _ _ _ _ _ _ _ _
      | exact ih2 _ _ _
      | exact date_Parse.mono _ _
      | exact date_Text.mono _ _ _ _
      | exact stipendlaw03_days.mono _
      | exact LeO.none _
      | refine LeO.ite ?_ ?_
      | refine LeO.bind ?_ (fun _ => ?_)
def stipendlaw03_DateTexts.T13 : Bool × List (List Nat × List Nat) := (true, [([], []), ([0], [0]), ([1], [1]), ([2], [2]), ([3], [3]), ([], []), ([5], [5]), ([6], [6]), ([7], [7]), ([8], [8]), ([4, 9], [4, 9]), ([], []), ([11], [11]), ([12], [12]), ([13], [13]), ([14], [14]), ([10, 15], [10, 15]), ([], []), ([17], [17]), ([18], [18]), ([19], [19]), ([16, 20], [16, 20]), ([21, 0, 1, 2, 3, 4, 5, 6, 7, 8, 9, 10, 11, 12, 13, 14, 15, 16, 17, 18, 19, 20, 21], [21])])
def stipendlaw03_DateTexts.B13 : List Nat := [0, 1, 3, 7, 15, 0, 32, 96, 224, 480, 1023, 0, 2048, 6144, 14336, 30720, 65535, 0, 131072, 393216, 917504, 2097151, 4194303]
theorem stipendlaw03_DateTexts.tab13 : rtab .any (opsOf Try.f6 13) = stipendlaw03_DateTexts.T13 := by kernel_rfl
theorem stipendlaw03_DateTexts.bits13 : waitsOk stipendlaw03_DateTexts.T13.2 stipendlaw03_DateTexts.B13 = true := by kernel_rfl
def stipendlaw03_DateTexts.T14 : Bool × List (List Nat × List Nat) := (true, [([], []), ([0], [0]), ([1], [1]), ([2], [2]), ([2], [2]), ([3, 4, 2], [2, 3, 4]), ([2, 5], [2, 5]), ([6, 2], [6]), ([7], [7]), ([7], [7]), ([9, 7], [7, 9]), ([10, 7], [7, 10]), ([11, 7], [7, 11]), ([12, 7], [7, 12]), ([7], [7]), ([14, 7], [7, 14]), ([15, 7], [7, 15]), ([16, 7], [7, 16]), ([13, 17, 7], [7, 13, 17]), ([7], [7]), ([19, 7], [7, 19]), ([20, 7], [7, 20]), ([21, 7], [7, 21]), ([22, 7], [7, 22]), ([7], [7]), ([24, 7], [7, 24]), ([25, 7], [7, 25]), ([26, 7], [7, 26]), ([23, 27, 7], [7, 23, 27]), ([8, 18, 28, 7], [7, 8, 18, 28]), ([29, 7, 7], [7, 29]), ([7, 30], [7, 30])])
def stipendlaw03_DateTexts.B14 : List Nat := [0, 1, 3, 7, 7, 31, 63, 127, 255, 255, 767, 1791, 3839, 7935, 255, 16639, 49407, 114943, 261887, 255, 524543, 1573119, 3670271, 7864575, 255, 16777471, 50331903, 117440767, 267911423, 536870911, 1073741823, 2147483647]
theorem stipendlaw03_DateTexts.tab14 : rtab .any (opsOf Try.f6 14) = stipendlaw03_DateTexts.T14 := by kernel_rfl
theorem stipendlaw03_DateTexts.bits14 : waitsOk stipendlaw03_DateTexts.T14.2 stipendlaw03_DateTexts.B14 = true := by kernel_rfl

end Go.Proofs.Ythfkfageehkhcaa.X
