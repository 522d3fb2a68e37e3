/- The law PeriodNames, over numbers and texts alone: each frequency has a name, and each such name its frequency; others have none. -/
import Derived.Test.YtojinnnckfimhaaX0
import Derived.Test.YtojinnnckfimhaaXperiodNominal
import Derived.Test.YtojinnnckfimhaaXperiodName
import Derived.Test.YtojinnnckfimhaaXstipendlaw04PeriodNames
import Derived.Test.YtojinnnckfimhaaMCuts
namespace Go.Proofs.Ytojinnnckfimhaa.Pure
open Go.RowKit Go.Proofs.Ytojinnnckfimhaa.X Go.Proofs.YtojinnnckfimhaaW.PrintWords Go.Proofs.YtojinnnckfimhaaW.PrintLast

def t0 : ByteArray := ⟨#[]⟩
def t1 : ByteArray := ⟨#[119, 101, 101, 107, 108, 121]⟩
def t2 : ByteArray := ⟨#[102, 111, 114, 116, 110, 105, 103, 104, 116, 108, 121]⟩
def t3 : ByteArray := ⟨#[102, 111, 117, 114, 119, 101, 101, 107, 108, 121]⟩
def t4 : ByteArray := ⟨#[109, 111, 110, 116, 104, 108, 121]⟩
/-- Which frequency a name tells; 0: none. -/
def which (l : List UInt8) : Int := if t1.toList = l then 1 else if t2.toList = l then 2 else if t3.toList = l then 3 else if t4.toList = l then 4 else 0
theorem ne12 : ¬ t1.toList = t2.toList := by decide +kernel
theorem ne13 : ¬ t1.toList = t3.toList := by decide +kernel
theorem ne14 : ¬ t1.toList = t4.toList := by decide +kernel
theorem ne23 : ¬ t2.toList = t3.toList := by decide +kernel
theorem ne24 : ¬ t2.toList = t4.toList := by decide +kernel
theorem ne34 : ¬ t3.toList = t4.toList := by decide +kernel
theorem name_ok (f : Int) : period_Name.f f = some (if f = 1 then t1 else if f = 2 then t2 else if f = 3 then t3 else if f = 4 then t4 else t0) := by
  unfold period_Name.f
  repeat' split
  all_goals rfl
theorem wr {i : Int} (h : 0 ≤ i ∧ i ≤ 10) : wrap64 (i + 1) = i + 1 := by
  unfold wrap64
  omega
theorem freq_round {s : ByteArray} {i : Int} (hi : 1 ≤ i ∧ i ≤ 4) (k : Nat) :
    period_Freq.l0 (k + 1) s i = if (if i = 1 then t1 else if i = 2 then t2 else if i = 3 then t3 else if i = 4 then t4 else t0).toList = s.toList then some (i, 0) else period_Freq.l0 k s (i + 1) := by
  simp only [period_Freq.l0]
  rw [if_pos hi.2, name_ok, wr (by omega)]
  simp only [Option.bind_some]
theorem freq_ok (s : ByteArray) (k : Nat) : period_Freq.f (k + 1 + 1 + 1 + 1 + 1) s = some (which s.toList, if which s.toList = 0 then 40 else 0) := by
  unfold period_Freq.f which
  rw [freq_round (by omega)]
  simp only [Int.reduceAdd, Int.reduceEq, if_true, if_false]
  by_cases h1 : t1.toList = s.toList
  · rw [if_pos h1, if_pos h1]; rfl
  rw [if_neg h1, if_neg h1, freq_round (by omega)]
  simp only [Int.reduceAdd, Int.reduceEq, if_true, if_false]
  by_cases h2 : t2.toList = s.toList
  · rw [if_pos h2, if_pos h2]; rfl
  rw [if_neg h2, if_neg h2, freq_round (by omega)]
  simp only [Int.reduceAdd, Int.reduceEq, if_true, if_false]
  by_cases h3 : t3.toList = s.toList
  · rw [if_pos h3, if_pos h3]; rfl
  rw [if_neg h3, if_neg h3, freq_round (by omega)]
  simp only [Int.reduceAdd, Int.reduceEq, if_true, if_false]
  by_cases h4 : t4.toList = s.toList
  · rw [if_pos h4, if_pos h4]; rfl
  rw [if_neg h4, if_neg h4]
  simp only [period_Freq.l0]
  rw [if_neg (by omega)]
  rfl
/-- One round of the law's loop. -/
theorem round {f : Int} {s w : ByteArray} {x7 x8 g i : Int} (hi : 0 ≤ i ∧ i < 5) (k : Nat) :
    stipendlaw04_PeriodNames.l0 (k + 1) f s w x7 x8 g i t0 t1 t2 t3 t4 = stipendlaw04_PeriodNames.l0 k f s w x7 x8 (if 0 < i ∧ (rdOf ByteArray.empty [t0, t1, t2, t3, t4] i).toList = s.toList then i else g) (i + 1) t0 t1 t2 t3 t4 := by
  simp only [stipendlaw04_PeriodNames.l0]
  rw [if_pos hi.2, if_pos hi.1, wr (by omega)]
  by_cases h0 : i > 0
  · rw [if_pos h0]
    by_cases hs : (rdOf ByteArray.empty [t0, t1, t2, t3, t4] i).toList = s.toList
    · rw [if_pos hs, if_pos ⟨h0, hs⟩]
    · rw [if_neg hs, if_neg (fun h => hs h.2)]
  · rw [if_neg h0, if_neg (fun h => h0 h.1)]
theorem loop_ok {f : Int} {s w : ByteArray} {x7 x8 : Int} (k : Nat) :
    stipendlaw04_PeriodNames.l0 (k + 1 + 1 + 1 + 1 + 1 + 1) f s w x7 x8 0 0 t0 t1 t2 t3 t4 = stipendlaw04_PeriodNames.l0 (k + 1) f s w x7 x8 (which s.toList) 5 t0 t1 t2 t3 t4 := by
  rw [round (by omega), round (by omega), round (by omega), round (by omega), round (by omega)]
  simp only [Int.reduceAdd, Int.reduceLT, true_and, false_and, if_false, show rdOf ByteArray.empty [t0, t1, t2, t3, t4] 1 = t1 from rfl, show rdOf ByteArray.empty [t0, t1, t2, t3, t4] 2 = t2 from rfl,
    show rdOf ByteArray.empty [t0, t1, t2, t3, t4] 3 = t3 from rfl, show rdOf ByteArray.empty [t0, t1, t2, t3, t4] 4 = t4 from rfl]
  congr 1
  unfold which
  by_cases h1 : t1.toList = s.toList
  · simp only [← h1, if_true, show (t2.toList = t1.toList) = False from eq_false fun h => ne12 h.symm, show (t3.toList = t1.toList) = False from eq_false fun h => ne13 h.symm, show (t4.toList = t1.toList) = False from eq_false fun h => ne14 h.symm, if_false]
  · rw [if_neg h1, if_neg h1]
    by_cases h2 : t2.toList = s.toList
    · simp only [← h2, if_true, show (t3.toList = t2.toList) = False from eq_false fun h => ne23 h.symm, show (t4.toList = t2.toList) = False from eq_false fun h => ne24 h.symm, if_false]
    · rw [if_neg h2, if_neg h2]
      by_cases h3 : t3.toList = s.toList
      · simp only [← h3, if_true, show (t4.toList = t3.toList) = False from eq_false fun h => ne34 h.symm, if_false]
      · rw [if_neg h3, if_neg h3]
theorem which_bd (l : List UInt8) : 0 ≤ which l := by
  unfold which
  repeat' split
  all_goals decide
theorem nominal_name (f : Int) : ∃ v, period_Nominal.f f = some v ∧ ((decide (v > 0)) == ((if f = 1 then t1 else if f = 2 then t2 else if f = 3 then t3 else if f = 4 then t4 else t0).toList != ([] : List UInt8))) = true := by
  unfold period_Nominal.f
  repeat' split
  all_goals exact ⟨_, rfl, by decide +kernel⟩
theorem end_ok {f : Int} {s w : ByteArray} (hw : w = if f = 1 then t1 else if f = 2 then t2 else if f = 3 then t3 else if f = 4 then t4 else t0) (k : Nat) :
    stipendlaw04_PeriodNames.j1 (k + 1 + 1 + 1 + 1 + 1 + 1 + 1) f s w t0 t1 t2 t3 t4 = some true := by
  simp only [stipendlaw04_PeriodNames.j1]
  rw [freq_ok s (k + 1)]
  simp only [Option.bind_some]
  rw [loop_ok]
  simp only [stipendlaw04_PeriodNames.l0]
  rw [if_neg (by omega), name_ok]
  simp only [Option.bind_some]
  rw [if_pos (by rw [hw]), if_pos trivial]
  obtain ⟨v, hv, hv2⟩ := nominal_name f
  rw [← hw] at hv2
  rw [hv]
  simp only [Option.bind_some]
  rw [hv2]
  have hb := which_bd s.toList
  by_cases h0 : which s.toList = 0
  · rw [if_pos h0, h0]; rfl
  · rw [if_neg h0, decide_eq_true (by omega : which s.toList > 0)]; rfl
theorem PeriodNames : stipendlaw04_PeriodNames.Pure := by
  intro f s _ _
  refine ⟨492 + 1 + 1 + 1 + 1 + 1 + 1 + 1 + 1, ?_⟩
  unfold stipendlaw04_PeriodNames.f
  rw [cuts_ok (by omega)]
  simp only [Option.bind_some, if_true]
  by_cases hs : (s.size : Int) > 60
  · rw [if_pos hs]
  · rw [if_neg hs]
    by_cases h0 : f > 0
    · rw [if_pos h0]
      by_cases h5 : f < 5
      · rw [decide_eq_true h5]
        simp only [stipendlaw04_PeriodNames.j0, if_true]
        rw [if_pos (by omega), if_pos h5]
        refine end_ok ?_ 492
        have : f = 1 ∨ f = 2 ∨ f = 3 ∨ f = 4 := by omega
        rcases this with rfl | rfl | rfl | rfl <;> rfl
      · rw [decide_eq_false h5]
        simp only [stipendlaw04_PeriodNames.j0, Bool.false_eq_true, if_false]
        refine end_ok ?_ 492
        rw [if_neg (by omega), if_neg (by omega), if_neg (by omega), if_neg (by omega)]
        rfl
    · rw [if_neg h0]
      simp only [stipendlaw04_PeriodNames.j0, Bool.false_eq_true, if_false]
      refine end_ok ?_ 492
      rw [if_neg (by omega), if_neg (by omega), if_neg (by omega), if_neg (by omega)]
      rfl
end Go.Proofs.Ytojinnnckfimhaa.Pure
