-- laid by the session's own program (xprint.py) out of Lean's print of the program; Lean checks it
import Derived.Test.YtfiomckebicphaaX0
import Derived.Test.YtfiomckebicphaaXeq1
import Derived.Test.YtfiomckebicphaaXholdStateDue
import Derived.Test.YtfiomckebicphaaXholdStep
import Derived.Test.YtfiomckebicphaaXstipendlaw14holds
import Derived.Test.YtfiomckebicphaaXstipendlaw14right
namespace Go.Proofs.Ytfiomckebicphaa.X
open Go.RowKit Go.Proofs.YtfiomckebicphaaW.PrintWords Go.Proofs.YtfiomckebicphaaW.PrintLast Go.Proofs.YtfiomckebicphaaW.PrintMore
attribute [local go_sem] max2_int min2_int max_two min_two max_three min_three max_four min_four   -- for this text's walks alone
set_option linter.unusedVariables false
set_option linter.unusedSimpArgs false

attribute [local go_sem high] eqA47
/-! ### stipendlaw14_HoldSteps: function 4 -/
mutual
def stipendlaw14_HoldSteps.j0 : Nat → Int → Int → Int → Bool → Int → Int → Int → Int → Bool → Int → Int → Option (Bool)
  | 0, _, _, _, _, _, _, _, _, _, _, _ => none
  | k + 1, x0, x8, x10, x58, x322000, x322001, x323000, x323001, x323002, x330000, x330001 => if x58 = true then (if x10 = 50 then (if x8 = 0 then (some (x330000 == x322000 && (x330001 == x322001))) else (some false)) else (some false)) else (if (wrap64 (x323001 - x322000)) > (wrap64 (Int.tdiv (wrap64 ((mx 0 x323000) * x0)) 10000)) then (stipendlaw14_HoldSteps.j1 k x8 x10 (wrap64 (x323001 - x322000)) (wrap64 (Int.tdiv (wrap64 ((mx 0 x323000) * x0)) 10000)) x322000 x322001 x323000 x323001 x323002 x330000 x330001) else (stipendlaw14_HoldSteps.j1 k x8 x10 (wrap64 (x323001 - x322000)) (wrap64 (x323001 - x322000)) x322000 x322001 x323000 x323001 x323002 x330000 x330001))
def stipendlaw14_HoldSteps.j1 : Nat → Int → Int → Int → Int → Int → Int → Int → Int → Bool → Int → Int → Option (Bool)
  | 0, _, _, _, _, _, _, _, _, _, _, _ => none
  | k + 1, x8, x10, x11, x13, x322000, x322001, x323000, x323001, x323002, x330000, x330001 => if x13 < 0 then (stipendlaw14_HoldSteps.j2 k x8 x10 x11 x13 (!x323002) x322000 x322001 x323000 x323001 x323002 x330000 x330001) else (stipendlaw14_HoldSteps.j2 k x8 x10 x11 x13 false x322000 x322001 x323000 x323001 x323002 x330000 x330001)
def stipendlaw14_HoldSteps.j2 : Nat → Int → Int → Int → Int → Bool → Int → Int → Int → Int → Bool → Int → Int → Option (Bool)
  | 0, _, _, _, _, _, _, _, _, _, _, _, _ => none
  | k + 1, x8, x10, x11, x13, x92, x322000, x322001, x323000, x323001, x323002, x330000, x330001 => if x92 = true then (stipendlaw14_HoldSteps.j3 k x8 x10 x11 0 x322000 x322001 x323000 x323001 x323002 x330000 x330001) else (stipendlaw14_HoldSteps.j3 k x8 x10 x11 x13 x322000 x322001 x323000 x323001 x323002 x330000 x330001)
def stipendlaw14_HoldSteps.j3 : Nat → Int → Int → Int → Int → Int → Int → Int → Int → Bool → Int → Int → Option (Bool)
  | 0, _, _, _, _, _, _, _, _, _, _, _ => none
  | k + 1, x8, x10, x11, x13, x322000, x322001, x323000, x323001, x323002, x330000, x330001 => (stipendlaw14_right.f k (([x11, wrap64 (x322000 + x13), wrap64 (x11 - x13)] : List Int))).bind fun t337 => (if t337 = true then (if x10 = 0 then (if x8 = x13 then (if (x330000 == (wrap64 (x322000 + x13)) && (x330001 == (wrap64 (x11 - x13)))) = true then ((hold_State_Due.f x330000 x330001).bind fun t338 => (some (t338 == x323001))) else (some false)) else (some false)) else (some false)) else (if x10 = 10 then (if x8 = 0 then (some (x330000 == x322000 && (x330001 == x322001))) else (some false)) else (some false)))
end
def stipendlaw14_HoldSteps.f (k : Nat) (a0 : Int) (a1_0 : Int) (a1_1 : Int) (a2_0 : Int) (a2_1 : Int) (a2_2 : Bool) : Option (Bool) := (stipendlaw14_holds.f k).bind fun t323 => (if t323 = true then ((hold_Step.f k ([] : List (List (S30))) ([] : List (S130)) ([] : List (S132)) a0 0 a1_0 a1_1 a2_0 a2_1 a2_2).bind fun bt325 => ((stipendlaw14_right.f k (([a1_0, a1_1, a2_0, a2_1] : List Int))).bind fun t333 => (if t333 = true then (if a0 < 0 then (stipendlaw14_HoldSteps.j0 k a0 bt325.1 bt325.2.2.2 true a1_0 a1_1 a2_0 a2_1 a2_2 bt325.2.1 bt325.2.2.1) else (stipendlaw14_HoldSteps.j0 k a0 bt325.1 bt325.2.2.2 (decide (a0 > 10000)) a1_0 a1_1 a2_0 a2_1 a2_2 bt325.2.1 bt325.2.2.1)) else (if bt325.2.2.2 = 10 then (if bt325.1 = 0 then (some (bt325.2.1 == a1_0 && (bt325.2.2.1 == a1_1))) else (some false)) else (some false))))) else (some false))
theorem stipendlaw14_HoldSteps.mono_l : ∀ k, (∀ y0 y1 y2 y3 y4 y5 y6 y7 y8 y9 y10, LeO (stipendlaw14_HoldSteps.j0 k y0 y1 y2 y3 y4 y5 y6 y7 y8 y9 y10) (stipendlaw14_HoldSteps.j0 (k + 1) y0 y1 y2 y3 y4 y5 y6 y7 y8 y9 y10)) ∧ (∀ y0 y1 y2 y3 y4 y5 y6 y7 y8 y9 y10, LeO (stipendlaw14_HoldSteps.j1 k y0 y1 y2 y3 y4 y5 y6 y7 y8 y9 y10) (stipendlaw14_HoldSteps.j1 (k + 1) y0 y1 y2 y3 y4 y5 y6 y7 y8 y9 y10)) ∧ (∀ y0 y1 y2 y3 y4 y5 y6 y7 y8 y9 y10 y11, LeO (stipendlaw14_HoldSteps.j2 k y0 y1 y2 y3 y4 y5 y6 y7 y8 y9 y10 y11) (stipendlaw14_HoldSteps.j2 (k + 1) y0 y1 y2 y3 y4 y5 y6 y7 y8 y9 y10 y11)) ∧ (∀ y0 y1 y2 y3 y4 y5 y6 y7 y8 y9 y10, LeO (stipendlaw14_HoldSteps.j3 k y0 y1 y2 y3 y4 y5 y6 y7 y8 y9 y10) (stipendlaw14_HoldSteps.j3 (k + 1) y0 y1 y2 y3 y4 y5 y6 y7 y8 y9 y10))
  | 0 => ⟨fun _ _ _ _ _ _ _ _ _ _ _ r h => by simp [stipendlaw14_HoldSteps.j0] at h, fun _ _ _ _ _ _ _ _ _ _ _ r h => by simp [stipendlaw14_HoldSteps.j1] at h, fun _ _ _ _ _ _ _ _ _ _ _ _ r h => by simp [stipendlaw14_HoldSteps.j2] at h, fun _ _ _ _ _ _ _ _ _ _ _ r h => by simp [stipendlaw14_HoldSteps.j3] at h⟩
  | k + 1 => by
    obtain ⟨ih0, ih1, ih2, ih3⟩ := stipendlaw14_HoldSteps.mono_l k
    refine ⟨?_, ?_, ?_, ?_⟩
    · intro y0 y1 y2 y3 y4 y5 y6 y7 y8 y9 y10
      unfold stipendlaw14_HoldSteps.j0
      repeat' first
      | (with_reducible exact ih0 _ _ _ _ _ _ _ _ _ _ _)
      | (with_reducible exact ih1 _ _ _ _ _ _ _ _ _ _ _)
      | (with_reducible exact ih2 _ _ _ _ _ _ _ _ _ _ _ _)
      | (with_reducible exact ih3 _ _ _ _ _ _ _ _ _ _ _)
      | (with_reducible exact hold_Step.mono _ _ _ _ _ _ _ _ _ _ _)
      | (with_reducible exact stipendlaw14_holds.mono _)
      | (with_reducible exact stipendlaw14_right.mono _ _)
      | (with_reducible exact LeO.refl _)
      | (with_reducible exact LeO.none _)
      | (with_reducible refine LeO.ite ?_ ?_)
      | (with_reducible refine LeO.bind ?_ (fun _ => ?_))
      | exact ih0 _ _ _ _ _ _ _ _ _ _ _
      | exact ih1 _ _ _ _ _ _ _ _ _ _ _
      | exact ih2 _ _ _ _ _ _ _ _ _ _ _ _
      | exact ih3 _ _ _ _ _ _ _ _ _ _ _
      | exact hold_Step.mono _ _ _ _ _ _ _ _ _ _ _
      | exact stipendlaw14_holds.mono _
      | exact stipendlaw14_right.mono _ _
      | exact LeO.none _
      | refine LeO.ite ?_ ?_
      | refine LeO.bind ?_ (fun _ => ?_)
    · intro y0 y1 y2 y3 y4 y5 y6 y7 y8 y9 y10
      unfold stipendlaw14_HoldSteps.j1
      repeat' first
      | (with_reducible exact ih0 _ _ _ _ _ _ _ _ _ _ _)
      | (with_reducible exact ih1 _ _ _ _ _ _ _ _ _ _ _)
      | (with_reducible exact ih2 _ _ _ _ _ _ _ _ _ _ _ _)
      | (with_reducible exact ih3 _ _ _ _ _ _ _ _ _ _ _)
      | (with_reducible exact hold_Step.mono _ _ _ _ _ _ _ _ _ _ _)
      | (with_reducible exact stipendlaw14_holds.mono _)
      | (with_reducible exact stipendlaw14_right.mono _ _)
      | (with_reducible exact LeO.refl _)
      | (with_reducible exact LeO.none _)
      | (with_reducible refine LeO.ite ?_ ?_)
      | (with_reducible refine LeO.bind ?_ (fun _ => ?_))
      | exact ih0 _ _ _ _ _ _ _ _ _ _ _
      | exact ih1 _ _ _ _ _ _ _ _ _ _ _
      | exact ih2 _ _ _ _ _ _ _ _ _ _ _ _
      | exact ih3 _ _ _ _ _ _ _ _ _ _ _
      | exact hold_Step.mono _ _ _ _ _ _ _ _ _ _ _
      | exact stipendlaw14_holds.mono _
      | exact stipendlaw14_right.mono _ _
      | exact LeO.none _
      | refine LeO.ite ?_ ?_
      | refine LeO.bind ?_ (fun _ => ?_)
    · intro y0 y1 y2 y3 y4 y5 y6 y7 y8 y9 y10 y11
      unfold stipendlaw14_HoldSteps.j2
      repeat' first
      | (with_reducible exact ih0 _ _ _ _ _ _ _ _ _ _ _)
      | (with_reducible exact ih1 _ _ _ _ _ _ _ _ _ _ _)
      | (with_reducible exact ih2 _ _ _ _ _ _ _ _ _ _ _ _)
      | (with_reducible exact ih3 _ _ _ _ _ _ _ _ _ _ _)
      | (with_reducible exact hold_Step.mono _ _ _ _ _ _ _ _ _ _ _)
      | (with_reducible exact stipendlaw14_holds.mono _)
      | (with_reducible exact stipendlaw14_right.mono _ _)
      | (with_reducible exact LeO.refl _)
      | (with_reducible exact LeO.none _)
      | (with_reducible refine LeO.ite ?_ ?_)
      | (with_reducible refine LeO.bind ?_ (fun _ => ?_))
      | exact ih0 _ _ _ _ _ _ _ _ _ _ _
      | exact ih1 _ _ _ _ _ _ _ _ _ _ _
      | exact ih2 _ _ _ _ _ _ _ _ _ _ _ _
      | exact ih3 _ _ _ _ _ _ _ _ _ _ _
      | exact hold_Step.mono _ _ _ _ _ _ _ _ _ _ _
      | exact stipendlaw14_holds.mono _
      | exact stipendlaw14_right.mono _ _
      | exact LeO.none _
      | refine LeO.ite ?_ ?_
      | refine LeO.bind ?_ (fun _ => ?_)
    · intro y0 y1 y2 y3 y4 y5 y6 y7 y8 y9 y10
      unfold stipendlaw14_HoldSteps.j3
      repeat' first
      | (with_reducible exact ih0 _ _ _ _ _ _ _ _ _ _ _)
      | (with_reducible exact ih1 _ _ _ _ _ _ _ _ _ _ _)
      | (with_reducible exact ih2 _ _ _ _ _ _ _ _ _ _ _ _)
      | (with_reducible exact ih3 _ _ _ _ _ _ _ _ _ _ _)
      | (with_reducible exact hold_Step.mono _ _ _ _ _ _ _ _ _ _ _)
      | (with_reducible exact stipendlaw14_holds.mono _)
      | (with_reducible exact stipendlaw14_right.mono _ _)
      | (with_reducible exact LeO.refl _)
      | (with_reducible exact LeO.none _)
      | (with_reducible refine LeO.ite ?_ ?_)
      | (with_reducible refine LeO.bind ?_ (fun _ => ?_))
      | exact ih0 _ _ _ _ _ _ _ _ _ _ _
      | exact ih1 _ _ _ _ _ _ _ _ _ _ _
      | exact ih2 _ _ _ _ _ _ _ _ _ _ _ _
      | exact ih3 _ _ _ _ _ _ _ _ _ _ _
      | exact hold_Step.mono _ _ _ _ _ _ _ _ _ _ _
      | exact stipendlaw14_holds.mono _
      | exact stipendlaw14_right.mono _ _
      | exact LeO.none _
      | refine LeO.ite ?_ ?_
      | refine LeO.bind ?_ (fun _ => ?_)
theorem stipendlaw14_HoldSteps.mono : ∀ a0 a1 a2 a3 a4 a5 k, LeO (stipendlaw14_HoldSteps.f k a0 a1 a2 a3 a4 a5) (stipendlaw14_HoldSteps.f (k + 1) a0 a1 a2 a3 a4 a5) := by
  intro a0 a1 a2 a3 a4 a5 k
  obtain ⟨ih0, ih1, ih2, ih3⟩ := stipendlaw14_HoldSteps.mono_l k
  unfold stipendlaw14_HoldSteps.f
  repeat' first
      | (with_reducible exact ih0 _ _ _ _ _ _ _ _ _ _ _)
      | (with_reducible exact ih1 _ _ _ _ _ _ _ _ _ _ _)
      | (with_reducible exact ih2 _ _ _ _ _ _ _ _ _ _ _ _)
      | (with_reducible exact ih3 _ _ _ _ _ _ _ _ _ _ _)
      | (with_reducible exact hold_Step.mono _ _ _ _ _ _ _ _ _ _ _)
      | (with_reducible exact stipendlaw14_holds.mono _)
      | (with_reducible exact stipendlaw14_right.mono _ _)
      | (with_reducible exact LeO.refl _)
      | (with_reducible exact LeO.none _)
      | (with_reducible refine LeO.ite ?_ ?_)
      | (with_reducible refine LeO.bind ?_ (fun _ => ?_))
      | exact ih0 _ _ _ _ _ _ _ _ _ _ _
      | exact ih1 _ _ _ _ _ _ _ _ _ _ _
      | exact ih2 _ _ _ _ _ _ _ _ _ _ _ _
      | exact ih3 _ _ _ _ _ _ _ _ _ _ _
      | exact hold_Step.mono _ _ _ _ _ _ _ _ _ _ _
      | exact stipendlaw14_holds.mono _
      | exact stipendlaw14_right.mono _ _
      | exact LeO.none _
      | refine LeO.ite ?_ ?_
      | refine LeO.bind ?_ (fun _ => ?_)
def stipendlaw14_HoldSteps.T18 : Bool × List (List Nat × List Nat) := (true, [([], []), ([0], [0]), ([1], [1]), ([2], [2]), ([2], [2]), ([3, 4, 2], [2, 3, 4]), ([2, 5], [2, 5]), ([6, 2], [6]), ([7], [7]), ([7], [7]), ([9, 7], [7, 9]), ([7], [7]), ([10, 11, 7], [7, 10, 11]), ([7], [7]), ([7], [7]), ([13, 14, 7], [7, 13, 14]), ([12, 15, 7], [7, 12, 15]), ([8, 16, 7], [7, 8, 16]), ([7, 17], [7, 17]), ([18, 7], [18]), ([19], [19]), ([20, 19, 19], [19, 20]), ([19], [19]), ([22, 19], [19, 22]), ([21, 23, 19], [19, 21, 23]), ([19, 24], [19, 24]), ([25, 21, 0, 1, 2, 3, 4, 5, 6, 7, 8, 9, 10, 11, 12, 13, 14, 15, 16, 17, 18, 19, 20, 21, 22, 23, 24, 25], [25])])
def stipendlaw14_HoldSteps.B18 : List Nat := [0, 1, 3, 7, 7, 31, 63, 127, 255, 255, 767, 255, 3839, 255, 255, 24831, 65279, 131071, 262143, 524287, 1048575, 2097151, 1048575, 5242879, 16777215, 33554431, 67108863]
theorem stipendlaw14_HoldSteps.tab18 : rtab .any (opsOf Try.f4 18) = stipendlaw14_HoldSteps.T18 := by kernel_rfl
theorem stipendlaw14_HoldSteps.bits18 : waitsOk stipendlaw14_HoldSteps.T18.2 stipendlaw14_HoldSteps.B18 = true := by kernel_rfl

end Go.Proofs.Ytfiomckebicphaa.X
