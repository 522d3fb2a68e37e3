-- laid by the session's own program (xprint.py) out of Lean's print of the program; Lean checks it
import Derived.Test.YtojinnnckfimhaaX0
namespace Go.Proofs.Ytojinnnckfimhaa.X
open Go.RowKit Go.Proofs.YtojinnnckfimhaaW.PrintWords Go.Proofs.YtojinnnckfimhaaW.PrintLast
set_option linter.unusedVariables false
set_option linter.unusedSimpArgs false

/-! ### date_Compare: function 28 -/
def date_Compare.f (a0_0 : Int) (a0_1 : Int) (a0_2 : Int) (a1_0 : Int) (a1_1 : Int) (a1_2 : Int) : Option Int :=
  if a0_0 < a1_0 then some (-1) else if a0_0 > a1_0 then some 1 else
  if a0_1 < a1_1 then some (-1) else if a0_1 > a1_1 then some 1 else
  if a0_2 < a1_2 then some (-1) else if a0_2 > a1_2 then some 1 else some 0
set_option maxHeartbeats 8000000 in
set_option maxRecDepth 100000 in
theorem date_Compare.calls (a0_0 : Int) (a0_1 : Int) (a0_2 : Int) (a1_0 : Int) (a1_1 : Int) (a1_2 : Int) (r : Int) (w : World) (h : date_Compare.f a0_0 a0_1 a0_2 a1_0 a1_1 a1_2 = some r) :
    Calls Try.prog 28 #[.agg #[.int .i64 a0_0, .int .i64 a0_1, .int .i64 a0_2], .agg #[.int .i64 a1_0, .int .i64 a1_1, .int .i64 a1_2]] w fun e w' => e = .returned (.int .i64 r) ∧ Below w.heap.size w w' := by
  have H := Aside0.mk h
  clear h
  have HB := Aside0.mk (Below.refl w.heap.size w)
  have i0 : ∀ (a b c d e f : Int) (W : World), (Instr.index 65 (.agg #[.int .i64 a, .int .i64 b, .int .i64 c, .int .i64 d, .int .i64 e, .int .i64 f]) (.int .i64 0)).run Try.prog W = .ok (.agg #[.int .i64 a, .int .i64 b]) W := fun _ _ _ _ _ _ _ => by kernel_rfl
  have i1 : ∀ (a b c d e f : Int) (W : World), (Instr.index 65 (.agg #[.int .i64 a, .int .i64 b, .int .i64 c, .int .i64 d, .int .i64 e, .int .i64 f]) (.int .i64 1)).run Try.prog W = .ok (.agg #[.int .i64 c, .int .i64 d]) W := fun _ _ _ _ _ _ _ => by kernel_rfl
  have i2 : ∀ (a b c d e f : Int) (W : World), (Instr.index 65 (.agg #[.int .i64 a, .int .i64 b, .int .i64 c, .int .i64 d, .int .i64 e, .int .i64 f]) (.int .i64 2)).run Try.prog W = .ok (.agg #[.int .i64 e, .int .i64 f]) W := fun _ _ _ _ _ _ _ => by kernel_rfl
  go_enter Try.func28, Try.ntmps28
  go_wp2
  go_loopg [23] 3 (fun kq v23 w' => ∃ (i : Int), v23 = .int .i64 i ∧ Aside0 (0 ≤ i ∧ i ≤ 3 ∧ kq = (3 - i).toNat ∧ (1 ≤ i → a0_0 = a1_0) ∧ (2 ≤ i → a0_1 = a1_1) ∧ (3 ≤ i → a0_2 = a1_2)) ∧ Aside0 (Below w.heap.size w w'))
  case atStart => exact ⟨0, rfl, ⟨by omega, by omega, rfl, by omega, by omega, by omega⟩, ⟨(by repeat (first | (with_reducible first | exact HB.out | apply below_alloc | apply pw_below_drewN | apply below_drew1) | exact HB.out))⟩⟩
  case round =>
    clear HB
    obtain ⟨i, rfl, HS, HB⟩ := hrel
    have hi := HS.out.1
    have hi2 := HS.out.2.1
    obtain rfl | rfl | rfl | rfl : i = 0 ∨ i = 1 ∨ i = 2 ∨ i = 3 := by omega
    all_goals clear hi hi2
    ·
      by_cases hlt : a0_0 < a1_0
      · have c1 : decide (a0_0 < a1_0) = true := decide_eq_true hlt
        have hr : date_Compare.f a0_0 a0_1 a0_2 a1_0 a1_1 a1_2 = some (-1) := by
          unfold date_Compare.f
          have := HS.out
          repeat (first | rw [if_pos (by omega)] | rw [if_neg (by omega)])
        rw [hr] at H
        obtain rfl := Option.some.inj H.out
        clear hr hlt
        go_wp2
        go_ret
        exact ⟨rfl, (by repeat (first | (with_reducible first | exact HB.out | apply below_alloc | apply pw_below_drewN | apply below_drew1) | exact HB.out))⟩
      · by_cases hgt : a0_0 > a1_0
        · have c1 : decide (a0_0 < a1_0) = false := decide_eq_false hlt
          have c2 : decide (a1_0 < a0_0) = true := decide_eq_true hgt
          have hr : date_Compare.f a0_0 a0_1 a0_2 a1_0 a1_1 a1_2 = some 1 := by
            unfold date_Compare.f
            have := HS.out
            repeat (first | rw [if_pos (by omega)] | rw [if_neg (by omega)])
          rw [hr] at H
          obtain rfl := Option.some.inj H.out
          clear hr hlt hgt
          go_wp2
          go_ret
          exact ⟨rfl, (by repeat (first | (with_reducible first | exact HB.out | apply below_alloc | apply pw_below_drewN | apply below_drew1) | exact HB.out))⟩
        · have c1 : decide (a0_0 < a1_0) = false := decide_eq_false hlt
          have c2 : decide (a1_0 < a0_0) = false := decide_eq_false hgt
          have HE := Aside0.mk (show a0_0 = a1_0 by omega)
          clear hlt hgt
          go_wp2
          go_roundg (3 - (0 + 1))
          case measure => have := HS.out; omega
          case rel => exact ⟨0 + 1, by simp, ⟨by have := HS.out; have := HE.out; refine ⟨by omega, by omega, by omega, by omega, by omega, by omega⟩⟩, ⟨(by repeat (first | (with_reducible first | exact HB.out | apply below_alloc | apply pw_below_drewN | apply below_drew1) | exact HB.out))⟩⟩
    ·
      by_cases hlt : a0_1 < a1_1
      · have c1 : decide (a0_1 < a1_1) = true := decide_eq_true hlt
        have hr : date_Compare.f a0_0 a0_1 a0_2 a1_0 a1_1 a1_2 = some (-1) := by
          unfold date_Compare.f
          have := HS.out
          repeat (first | rw [if_pos (by omega)] | rw [if_neg (by omega)])
        rw [hr] at H
        obtain rfl := Option.some.inj H.out
        clear hr hlt
        go_wp2
        go_ret
        exact ⟨rfl, (by repeat (first | (with_reducible first | exact HB.out | apply below_alloc | apply pw_below_drewN | apply below_drew1) | exact HB.out))⟩
      · by_cases hgt : a0_1 > a1_1
        · have c1 : decide (a0_1 < a1_1) = false := decide_eq_false hlt
          have c2 : decide (a1_1 < a0_1) = true := decide_eq_true hgt
          have hr : date_Compare.f a0_0 a0_1 a0_2 a1_0 a1_1 a1_2 = some 1 := by
            unfold date_Compare.f
            have := HS.out
            repeat (first | rw [if_pos (by omega)] | rw [if_neg (by omega)])
          rw [hr] at H
          obtain rfl := Option.some.inj H.out
          clear hr hlt hgt
          go_wp2
          go_ret
          exact ⟨rfl, (by repeat (first | (with_reducible first | exact HB.out | apply below_alloc | apply pw_below_drewN | apply below_drew1) | exact HB.out))⟩
        · have c1 : decide (a0_1 < a1_1) = false := decide_eq_false hlt
          have c2 : decide (a1_1 < a0_1) = false := decide_eq_false hgt
          have HE := Aside0.mk (show a0_1 = a1_1 by omega)
          clear hlt hgt
          go_wp2
          go_roundg (3 - (1 + 1))
          case measure => have := HS.out; omega
          case rel => exact ⟨1 + 1, by simp, ⟨by have := HS.out; have := HE.out; refine ⟨by omega, by omega, by omega, by omega, by omega, by omega⟩⟩, ⟨(by repeat (first | (with_reducible first | exact HB.out | apply below_alloc | apply pw_below_drewN | apply below_drew1) | exact HB.out))⟩⟩
    ·
      by_cases hlt : a0_2 < a1_2
      · have c1 : decide (a0_2 < a1_2) = true := decide_eq_true hlt
        have hr : date_Compare.f a0_0 a0_1 a0_2 a1_0 a1_1 a1_2 = some (-1) := by
          unfold date_Compare.f
          have := HS.out
          repeat (first | rw [if_pos (by omega)] | rw [if_neg (by omega)])
        rw [hr] at H
        obtain rfl := Option.some.inj H.out
        clear hr hlt
        go_wp2
        go_ret
        exact ⟨rfl, (by repeat (first | (with_reducible first | exact HB.out | apply below_alloc | apply pw_below_drewN | apply below_drew1) | exact HB.out))⟩
      · by_cases hgt : a0_2 > a1_2
        · have c1 : decide (a0_2 < a1_2) = false := decide_eq_false hlt
          have c2 : decide (a1_2 < a0_2) = true := decide_eq_true hgt
          have hr : date_Compare.f a0_0 a0_1 a0_2 a1_0 a1_1 a1_2 = some 1 := by
            unfold date_Compare.f
            have := HS.out
            repeat (first | rw [if_pos (by omega)] | rw [if_neg (by omega)])
          rw [hr] at H
          obtain rfl := Option.some.inj H.out
          clear hr hlt hgt
          go_wp2
          go_ret
          exact ⟨rfl, (by repeat (first | (with_reducible first | exact HB.out | apply below_alloc | apply pw_below_drewN | apply below_drew1) | exact HB.out))⟩
        · have c1 : decide (a0_2 < a1_2) = false := decide_eq_false hlt
          have c2 : decide (a1_2 < a0_2) = false := decide_eq_false hgt
          have HE := Aside0.mk (show a0_2 = a1_2 by omega)
          clear hlt hgt
          go_wp2
          go_roundg (3 - (2 + 1))
          case measure => have := HS.out; omega
          case rel => exact ⟨2 + 1, by simp, ⟨by have := HS.out; have := HE.out; refine ⟨by omega, by omega, by omega, by omega, by omega, by omega⟩⟩, ⟨(by repeat (first | (with_reducible first | exact HB.out | apply below_alloc | apply pw_below_drewN | apply below_drew1) | exact HB.out))⟩⟩
    · have hr : date_Compare.f a0_0 a0_1 a0_2 a1_0 a1_1 a1_2 = some 0 := by
        unfold date_Compare.f
        have := HS.out
        repeat (first | rw [if_pos (by omega)] | rw [if_neg (by omega)])
      rw [hr] at H
      obtain rfl := Option.some.inj H.out
      clear hr
      go_wp2
      go_ret
      exact ⟨rfl, (by repeat (first | (with_reducible first | exact HB.out | apply below_alloc | apply pw_below_drewN | apply below_drew1) | exact HB.out))⟩

end Go.Proofs.Ytojinnnckfimhaa.X
