/- Plain facts on the package hold: Limit, Part, Step. -/
import Derived.Test.YtfiomckebicphaaX0
import Derived.Test.YtfiomckebicphaaXmoneyRight
import Derived.Test.YtfiomckebicphaaXholdLimit
import Derived.Test.YtfiomckebicphaaXholdPart
import Derived.Test.YtfiomckebicphaaXmoneycheck
import Derived.Test.YtfiomckebicphaaXmoneySub
import Derived.Test.YtfiomckebicphaaXmoneyAdd
import Derived.Test.YtfiomckebicphaaXholdStep
import Derived.Test.YtfiomckebicphaaXstipendlaw14holds
import Derived.Test.YtfiomckebicphaaMRight
namespace Go.Proofs.Ytfiomckebicphaa.Pure
open Go Go.RowKit Go.Proofs.Ytfiomckebicphaa.X Go.Proofs.YtfiomckebicphaaW.PrintWords Go.Proofs.YtfiomckebicphaaW.PrintLast Go.Proofs.YtfiomckebicphaaW.PrintMore

theorem holds_ok {k : Nat} (hk : 80 ≤ k) : stipendlaw14_holds.f k = some true := by
  obtain ⟨k, rfl⟩ : ∃ n, k = n + 80 := ⟨k - 80, by omega⟩
  clear hk
  induction k with
  | zero => decide +kernel
  | succ k ih => exact stipendlaw14_holds.mono (k + 80) _ ih
/-- An amount, or none, if it is below nought. -/
def pos (x : Int) : Int := if 0 < x then x else 0
theorem mx_pos (x : Int) : mx 0 x = pos x := by unfold mx pos; split <;> rfl
theorem pos_bd (x : Int) : 0 ≤ pos x ∧ x ≤ pos x ∧ (pos x = x ∨ pos x = 0) := by unfold pos; split <;> omega
/-- The most that may be withheld. -/
def lim (rate cash : Int) : Int := pos cash * rate / 10000
theorem limit_any (a : List (List S30)) (b : List S130) (c : List S132) {rate z cash : Int} {k : Nat} (hk : 61 ≤ k) :
    hold_Limit.f k a b c rate z cash = some (if okM (pos cash) then (if 0 ≤ rate ∧ rate ≤ 10000 then (lim rate cash, 0) else (0, 50)) else (0, 10)) := by
  obtain ⟨k, rfl⟩ : ∃ n, k = n + 61 := ⟨k - 61, by omega⟩
  unfold hold_Limit.f
  rw [mx_pos, take_down]
  rfl
theorem lim_bd {rate cash : Int} (_ : okM (pos cash)) (hr : 0 ≤ rate ∧ rate ≤ 10000) : 0 ≤ lim rate cash ∧ lim rate cash ≤ pos cash := by
  have hp := pos_bd cash
  unfold lim
  have h1 : 0 ≤ pos cash * rate := Int.mul_nonneg hp.1 hr.1
  have h2 : pos cash * rate ≤ pos cash * 10000 := Int.mul_le_mul_of_nonneg_left hr.2 hp.1
  omega
/-- How much is withheld. -/
def held (need limit : Int) (back : Bool) : Int := if back = true then mn need limit else mx 0 (mn need limit)
theorem part_held (need limit : Int) (back : Bool) : hold_Part.f need limit back = some (held need limit back) := by
  unfold hold_Part.f held
  cases back <;> rfl
theorem held_cases (need limit : Int) (back : Bool) : held need limit back = (if back = true then (if limit < need then limit else need) else (if 0 < (if limit < need then limit else need) then (if limit < need then limit else need) else 0)) := by
  unfold held mn mx
  rfl
theorem right2 (x y : Int) {k : Nat} (hk : 61 ≤ k) : money_Right.f k [x, y] = some (decide (okM x ∧ okM y)) := by
  obtain ⟨k, rfl⟩ : ∃ n, k = n + 61 := ⟨k - 61, by omega⟩
  rw [right_ok [x, y] (by simp)]
  simp
theorem right4 (x y z u : Int) {k : Nat} (hk : 61 ≤ k) : money_Right.f k [x, y, z, u] = some (decide (okM x ∧ okM y ∧ okM z ∧ okM u)) := by
  obtain ⟨k, rfl⟩ : ∃ n, k = n + 61 := ⟨k - 61, by omega⟩
  rw [right_ok [x, y, z, u] (by simp)]
  simp
theorem check_ok {x : Int} {k : Nat} (hk : 61 ≤ k) : money_check.f k x = some (if okM x then (x, 0) else (0, 10)) := by
  obtain ⟨k, rfl⟩ : ∃ n, k = n + 61 := ⟨k - 61, by omega⟩
  unfold money_check.f
  rw [right1]
  by_cases h : okM x <;> simp [h]
theorem okM_bd {x : Int} (h : okM x) : -100000000000 ≤ x ∧ x ≤ 100000000000 := h
theorem sub_ok {x y : Int} (hx : okM x) (hy : okM y) {k : Nat} (hk : 61 ≤ k) : money_Sub.f k x y = some (if okM (x - y) then (x - y, 0) else (0, 10)) := by
  have h1 := okM_bd hx
  have h2 := okM_bd hy
  unfold money_Sub.f
  rw [right2 x y hk]
  simp only [hx, hy, and_self, decide_true, Option.bind_some, if_true]
  rw [w64 (by omega), check_ok hk]
  split <;> rfl
theorem madd_ok {x y : Int} (hx : okM x) (hy : okM y) {k : Nat} (hk : 61 ≤ k) : money_Add.f k x y = some (if okM (x + y) then (x + y, 0) else (0, 10)) := by
  have h1 := okM_bd hx
  have h2 := okM_bd hy
  unfold money_Add.f
  rw [right2 x y hk]
  simp only [hx, hy, and_self, decide_true, Option.bind_some, if_true]
  rw [w64 (by omega), check_ok hk]
  split <;> rfl
/-- A period's step. -/
def step (rate W S cash due : Int) (back : Bool) : Int × Int × Int × Int :=
  if okM W ∧ okM S ∧ okM cash ∧ okM due then
    (if 0 ≤ rate ∧ rate ≤ 10000 then
      (if okM (due - W) ∧ okM (W + held (due - W) (lim rate cash) back) ∧ okM (due - W - held (due - W) (lim rate cash) back) then
        (held (due - W) (lim rate cash) back, W + held (due - W) (lim rate cash) back, due - W - held (due - W) (lim rate cash) back, 0)
      else (0, W, S, 10))
    else (0, W, S, 50))
  else (0, W, S, 10)
theorem pos_ok {x : Int} (h : okM x) : okM (pos x) := by
  have := okM_bd h
  have := pos_bd x
  unfold okM
  omega
theorem held_ok {need limit : Int} (back : Bool) (h1 : okM need) (h2 : okM limit) : okM (held need limit back) := by
  have := okM_bd h1
  have := okM_bd h2
  rw [held_cases]
  unfold okM
  repeat' split
  all_goals omega
theorem lim_ok {rate cash : Int} (h : okM cash) (hr : 0 ≤ rate ∧ rate ≤ 10000) : okM (lim rate cash) := by
  have h1 := pos_ok h
  have := lim_bd h1 hr
  have := okM_bd h1
  unfold okM
  omega
theorem step_ok (a : List (List S30)) (b : List S130) (c : List S132) {rate z W S cash due : Int} {back : Bool} {k : Nat} (hk : 61 ≤ k) :
    hold_Step.f k a b c rate z W S cash due back = some (step rate W S cash due back) := by
  unfold hold_Step.f step
  rw [right4 W S cash due hk, limit_any a b c hk]
  simp only [Option.bind_some, decide_eq_true_eq]
  by_cases h : okM W ∧ okM S ∧ okM cash ∧ okM due
  · obtain ⟨h1, h2, h3, h4⟩ := h
    rw [if_pos (And.intro h1 (And.intro h2 (And.intro h3 h4)))]
    simp only [pos_ok h3, if_true]
    by_cases hr : 0 ≤ rate ∧ rate ≤ 10000
    · simp only [hr, and_self, if_true]
      rw [sub_ok h4 h1 hk]
      simp only [Option.bind_some]
      by_cases hn : okM (due - W)
      · have hl := lim_ok h3 hr
        have hh := held_ok back hn hl
        simp only [hn, if_true, part_held, Option.bind_some, true_and]
        rw [madd_ok h1 hh hk]
        simp only [Option.bind_some]
        by_cases ha : okM (W + held (due - W) (lim rate cash) back)
        · simp only [ha, if_true, true_and]
          rw [sub_ok hn hh hk]
          simp only [Option.bind_some]
          by_cases hs : okM (due - W - held (due - W) (lim rate cash) back)
          · simp [hs, h1, h2, h3, h4]
          · simp [hs, h1, h2, h3, h4]
        · simp [ha, h1, h2, h3, h4]
      · simp [hn, h1, h2, h3, h4]
    · simp only [hr, if_false, h1, h2, h3, h4, and_self, if_true]
      simp
  · rw [if_neg h, if_neg h]
end Go.Proofs.Ytfiomckebicphaa.Pure
