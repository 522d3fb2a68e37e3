/-
  No cell of these rows narrows 'for every input' (looked for: loops, veiled, ifaces, maps, wideKeys, modest, calm, conditions, laid).
  DERIVED. THE GIVEN ROWS OF THIS SEAT. 12 by the template 'for every input the law returns true; each argument reads behind the call as it read before'; 0 by the template 'total and deterministic' (their statements: YtfiomckebicphaaTotals.lean).
  GIVEN WITH THE SEED: the statements are not yours to turn. If you find one false, say at which input.
  Laid BY PROGRAM, IN A SANDBOX (cutbox-rows.mjs): the forced cells as the released guide's own fill.sh prints them over the translation 3a1d9184c3aad17b… (all of the seat's roots in one cut). By AI agents, Wed Nov 11 2026. No macro, syntax, notation, axiom, sorry.
-/
import Derived.Test.YtfiomckebicphaaChecked
import GoSem.Claim
import GoSem.ClaimJoined
import GoSem.ClaimMapViews
import Derived.JoinedTies
import Derived.KernelRfl
namespace Go.Proofs.Ytfiomckebicphaa
/- THE CELL 'sum', in the pinned program and in every row, IS THE sha256 OF THE DUMP (.gsa) THAT YtfiomckebicphaaProg.lean LOADS. Nothing in Lean hashes anything: it is a label: what it is worth is what the hold of that sum in a sandbox is worth. -/
noncomputable def Try.pinned : Pinned := { name := "ytfiomckebicphaa", sum := "3a1d9184c3aad17b240556eee5ae41cc7b4fd4f3ff256852b8618d6e4436950f", checked := Try.checked }
namespace Rows
def none {H : Type} : Left H := { results := [], args := [] }

/-- 'stipendtop.WholeBands': WHATEVER THE INPUT: true; the input reads as it did. -/
def wholeBandsSpec : ChangeSpec := { name := "wholeBands", fn := fun _ => fun
  | [d1, d2, d3] => { results := [.lit (.bool true)], args := [d1, d2, d3] }
  | _ => none }
def wholeBandsRow : OpenClaim := { program := "ytfiomckebicphaa", sum := "3a1d9184c3aad17b240556eee5ae41cc7b4fd4f3ff256852b8618d6e4436950f", func := "stipend/stipendtop.WholeBands", spec := "wholeBands", unfollowed := true, recurses := true, apart := false }
def WholeBandsSaid : Prop := wholeBandsRow.holds Try.pinned (OpenSpec.ofChange wholeBandsSpec)

/-- ITS FALSE NEIGHBOUR: 'it returns false'. Refute it at one input. -/
def wholeBandsWrong : ChangeSpec := { name := "wholeBands", fn := fun _ => fun
  | [d1, d2, d3] => { results := [.lit (.bool false)], args := [d1, d2, d3] }
  | _ => none }
def WholeBandsWrongFalsely : Prop := wholeBandsRow.holds Try.pinned (OpenSpec.ofChange wholeBandsWrong)

/-- 'stipendlaw14.HoldSteps': WHATEVER THE INPUT: true; the input reads as it did. -/
def holdStepsSpec : ChangeSpec := { name := "holdSteps", fn := fun _ => fun
  | [d1, d2, d3] => { results := [.lit (.bool true)], args := [d1, d2, d3] }
  | _ => none }
def holdStepsRow : OpenClaim := { program := "ytfiomckebicphaa", sum := "3a1d9184c3aad17b240556eee5ae41cc7b4fd4f3ff256852b8618d6e4436950f", func := "stipend/stipendlaw14.HoldSteps", spec := "holdSteps", apart := false }
def HoldStepsSaid : Prop := holdStepsRow.holds Try.pinned (OpenSpec.ofChange holdStepsSpec)

/-- ITS FALSE NEIGHBOUR: 'it returns false'. Refute it at one input. -/
def holdStepsWrong : ChangeSpec := { name := "holdSteps", fn := fun _ => fun
  | [d1, d2, d3] => { results := [.lit (.bool false)], args := [d1, d2, d3] }
  | _ => none }
def HoldStepsWrongFalsely : Prop := holdStepsRow.holds Try.pinned (OpenSpec.ofChange holdStepsWrong)

/-- 'stipendlaw14.HoldYear': WHATEVER THE INPUT: true; the input reads as it did. -/
def holdYearSpec : ChangeSpec := { name := "holdYear", fn := fun _ => fun
  | [d1, d2] => { results := [.lit (.bool true)], args := [d1, d2] }
  | _ => none }
def holdYearRow : OpenClaim := { program := "ytfiomckebicphaa", sum := "3a1d9184c3aad17b240556eee5ae41cc7b4fd4f3ff256852b8618d6e4436950f", func := "stipend/stipendlaw14.HoldYear", spec := "holdYear", apart := false }
def HoldYearSaid : Prop := holdYearRow.holds Try.pinned (OpenSpec.ofChange holdYearSpec)

/-- ITS FALSE NEIGHBOUR: 'it returns false'. Refute it at one input. -/
def holdYearWrong : ChangeSpec := { name := "holdYear", fn := fun _ => fun
  | [d1, d2] => { results := [.lit (.bool false)], args := [d1, d2] }
  | _ => none }
def HoldYearWrongFalsely : Prop := holdYearRow.holds Try.pinned (OpenSpec.ofChange holdYearWrong)

/-- 'stipendlaw14.HoldLimit': WHATEVER THE INPUT: true; the input reads as it did. -/
def holdLimitSpec : ChangeSpec := { name := "holdLimit", fn := fun _ => fun
  | [d1, d2] => { results := [.lit (.bool true)], args := [d1, d2] }
  | _ => none }
def holdLimitRow : OpenClaim := { program := "ytfiomckebicphaa", sum := "3a1d9184c3aad17b240556eee5ae41cc7b4fd4f3ff256852b8618d6e4436950f", func := "stipend/stipendlaw14.HoldLimit", spec := "holdLimit", apart := false }
def HoldLimitSaid : Prop := holdLimitRow.holds Try.pinned (OpenSpec.ofChange holdLimitSpec)

/-- ITS FALSE NEIGHBOUR: 'it returns false'. Refute it at one input. -/
def holdLimitWrong : ChangeSpec := { name := "holdLimit", fn := fun _ => fun
  | [d1, d2] => { results := [.lit (.bool false)], args := [d1, d2] }
  | _ => none }
def HoldLimitWrongFalsely : Prop := holdLimitRow.holds Try.pinned (OpenSpec.ofChange holdLimitWrong)

/-- 'stipendlaw14.HoldRises': WHATEVER THE INPUT: true; the input reads as it did. -/
def holdRisesSpec : ChangeSpec := { name := "holdRises", fn := fun _ => fun
  | [d1, d2, d3] => { results := [.lit (.bool true)], args := [d1, d2, d3] }
  | _ => none }
def holdRisesRow : OpenClaim := { program := "ytfiomckebicphaa", sum := "3a1d9184c3aad17b240556eee5ae41cc7b4fd4f3ff256852b8618d6e4436950f", func := "stipend/stipendlaw14.HoldRises", spec := "holdRises", apart := false }
def HoldRisesSaid : Prop := holdRisesRow.holds Try.pinned (OpenSpec.ofChange holdRisesSpec)

/-- ITS FALSE NEIGHBOUR: 'it returns false'. Refute it at one input. -/
def holdRisesWrong : ChangeSpec := { name := "holdRises", fn := fun _ => fun
  | [d1, d2, d3] => { results := [.lit (.bool false)], args := [d1, d2, d3] }
  | _ => none }
def HoldRisesWrongFalsely : Prop := holdRisesRow.holds Try.pinned (OpenSpec.ofChange holdRisesWrong)

/-- 'stipendlaw02.FracRounds': WHATEVER THE INPUT: true; the input reads as it did. -/
def fracRoundsSpec : ChangeSpec := { name := "fracRounds", fn := fun _ => fun
  | [d1, d2, d3] => { results := [.lit (.bool true)], args := [d1, d2, d3] }
  | _ => none }
def fracRoundsRow : OpenClaim := { program := "ytfiomckebicphaa", sum := "3a1d9184c3aad17b240556eee5ae41cc7b4fd4f3ff256852b8618d6e4436950f", func := "stipend/stipendlaw02.FracRounds", spec := "fracRounds", apart := false }
def FracRoundsSaid : Prop := fracRoundsRow.holds Try.pinned (OpenSpec.ofChange fracRoundsSpec)

/-- ITS FALSE NEIGHBOUR: 'it returns false'. Refute it at one input. -/
def fracRoundsWrong : ChangeSpec := { name := "fracRounds", fn := fun _ => fun
  | [d1, d2, d3] => { results := [.lit (.bool false)], args := [d1, d2, d3] }
  | _ => none }
def FracRoundsWrongFalsely : Prop := fracRoundsRow.holds Try.pinned (OpenSpec.ofChange fracRoundsWrong)

/-- 'stipendlaw02.FracModes': WHATEVER THE INPUT: true; the input reads as it did. -/
def fracModesSpec : ChangeSpec := { name := "fracModes", fn := fun _ => fun
  | [d1, d2] => { results := [.lit (.bool true)], args := [d1, d2] }
  | _ => none }
def fracModesRow : OpenClaim := { program := "ytfiomckebicphaa", sum := "3a1d9184c3aad17b240556eee5ae41cc7b4fd4f3ff256852b8618d6e4436950f", func := "stipend/stipendlaw02.FracModes", spec := "fracModes", apart := false }
def FracModesSaid : Prop := fracModesRow.holds Try.pinned (OpenSpec.ofChange fracModesSpec)

/-- ITS FALSE NEIGHBOUR: 'it returns false'. Refute it at one input. -/
def fracModesWrong : ChangeSpec := { name := "fracModes", fn := fun _ => fun
  | [d1, d2] => { results := [.lit (.bool false)], args := [d1, d2] }
  | _ => none }
def FracModesWrongFalsely : Prop := fracModesRow.holds Try.pinned (OpenSpec.ofChange fracModesWrong)

/-- 'stipendlaw02.FracScales': WHATEVER THE INPUT: true; the input reads as it did. -/
def fracScalesSpec : ChangeSpec := { name := "fracScales", fn := fun _ => fun
  | [d1, d2, d3] => { results := [.lit (.bool true)], args := [d1, d2, d3] }
  | _ => none }
def fracScalesRow : OpenClaim := { program := "ytfiomckebicphaa", sum := "3a1d9184c3aad17b240556eee5ae41cc7b4fd4f3ff256852b8618d6e4436950f", func := "stipend/stipendlaw02.FracScales", spec := "fracScales", apart := false }
def FracScalesSaid : Prop := fracScalesRow.holds Try.pinned (OpenSpec.ofChange fracScalesSpec)

/-- ITS FALSE NEIGHBOUR: 'it returns false'. Refute it at one input. -/
def fracScalesWrong : ChangeSpec := { name := "fracScales", fn := fun _ => fun
  | [d1, d2, d3] => { results := [.lit (.bool false)], args := [d1, d2, d3] }
  | _ => none }
def FracScalesWrongFalsely : Prop := fracScalesRow.holds Try.pinned (OpenSpec.ofChange fracScalesWrong)

/-- 'stipendlaw02.FracCompares': WHATEVER THE INPUT: true; the input reads as it did. -/
def fracComparesSpec : ChangeSpec := { name := "fracCompares", fn := fun _ => fun
  | [d1, d2, d3] => { results := [.lit (.bool true)], args := [d1, d2, d3] }
  | _ => none }
def fracComparesRow : OpenClaim := { program := "ytfiomckebicphaa", sum := "3a1d9184c3aad17b240556eee5ae41cc7b4fd4f3ff256852b8618d6e4436950f", func := "stipend/stipendlaw02.FracCompares", spec := "fracCompares", apart := false }
def FracComparesSaid : Prop := fracComparesRow.holds Try.pinned (OpenSpec.ofChange fracComparesSpec)

/-- ITS FALSE NEIGHBOUR: 'it returns false'. Refute it at one input. -/
def fracComparesWrong : ChangeSpec := { name := "fracCompares", fn := fun _ => fun
  | [d1, d2, d3] => { results := [.lit (.bool false)], args := [d1, d2, d3] }
  | _ => none }
def FracComparesWrongFalsely : Prop := fracComparesRow.holds Try.pinned (OpenSpec.ofChange fracComparesWrong)

/-- 'stipendlaw02.FracAdds': WHATEVER THE INPUT: true; the input reads as it did. -/
def fracAddsSpec : ChangeSpec := { name := "fracAdds", fn := fun _ => fun
  | [d1, d2] => { results := [.lit (.bool true)], args := [d1, d2] }
  | _ => none }
def fracAddsRow : OpenClaim := { program := "ytfiomckebicphaa", sum := "3a1d9184c3aad17b240556eee5ae41cc7b4fd4f3ff256852b8618d6e4436950f", func := "stipend/stipendlaw02.FracAdds", spec := "fracAdds", apart := false }
def FracAddsSaid : Prop := fracAddsRow.holds Try.pinned (OpenSpec.ofChange fracAddsSpec)

/-- ITS FALSE NEIGHBOUR: 'it returns false'. Refute it at one input. -/
def fracAddsWrong : ChangeSpec := { name := "fracAdds", fn := fun _ => fun
  | [d1, d2] => { results := [.lit (.bool false)], args := [d1, d2] }
  | _ => none }
def FracAddsWrongFalsely : Prop := fracAddsRow.holds Try.pinned (OpenSpec.ofChange fracAddsWrong)

/-- 'stipendlaw14.HoldRecoups': WHATEVER THE INPUT: true; the input reads as it did. -/
def holdRecoupsSpec : ChangeSpec := { name := "holdRecoups", fn := fun _ => fun
  | [d1, d2, d3] => { results := [.lit (.bool true)], args := [d1, d2, d3] }
  | _ => none }
def holdRecoupsRow : OpenClaim := { program := "ytfiomckebicphaa", sum := "3a1d9184c3aad17b240556eee5ae41cc7b4fd4f3ff256852b8618d6e4436950f", func := "stipend/stipendlaw14.HoldRecoups", spec := "holdRecoups", apart := false }
def HoldRecoupsSaid : Prop := holdRecoupsRow.holds Try.pinned (OpenSpec.ofChange holdRecoupsSpec)

/-- ITS FALSE NEIGHBOUR: 'it returns false'. Refute it at one input. -/
def holdRecoupsWrong : ChangeSpec := { name := "holdRecoups", fn := fun _ => fun
  | [d1, d2, d3] => { results := [.lit (.bool false)], args := [d1, d2, d3] }
  | _ => none }
def HoldRecoupsWrongFalsely : Prop := holdRecoupsRow.holds Try.pinned (OpenSpec.ofChange holdRecoupsWrong)

/-- 'stipendlaw02.FracParts': WHATEVER THE INPUT: true; the input reads as it did. -/
def fracPartsSpec : ChangeSpec := { name := "fracParts", fn := fun _ => fun
  | [d1, d2, d3] => { results := [.lit (.bool true)], args := [d1, d2, d3] }
  | _ => none }
def fracPartsRow : OpenClaim := { program := "ytfiomckebicphaa", sum := "3a1d9184c3aad17b240556eee5ae41cc7b4fd4f3ff256852b8618d6e4436950f", func := "stipend/stipendlaw02.FracParts", spec := "fracParts", apart := false }
def FracPartsSaid : Prop := fracPartsRow.holds Try.pinned (OpenSpec.ofChange fracPartsSpec)

/-- ITS FALSE NEIGHBOUR: 'it returns false'. Refute it at one input. -/
def fracPartsWrong : ChangeSpec := { name := "fracParts", fn := fun _ => fun
  | [d1, d2, d3] => { results := [.lit (.bool false)], args := [d1, d2, d3] }
  | _ => none }
def FracPartsWrongFalsely : Prop := fracPartsRow.holds Try.pinned (OpenSpec.ofChange fracPartsWrong)

/- THE SECOND FORM. 'bulk': how many values and letters a reading holds, each counted each time it is reached (what is shared counts as often as it is met; a slice's spare places count too). A statement '..UptoSaid' is the law's where the arguments, and the package variables that the reading takes, are together of bulk at most 1048576: NARROWER than '..Said'. Prove '..Said' where nothing that the law and all that it calls make is longer than what came in: it says more and counts as full. Else prove '..UptoSaid'. A law counts once. -/
mutual
def uptoBulk {H : Type} : DataW H → Nat
  | .lit (.string bytes) => bytes.length + 1
  | .lit _ => 1
  | .nil => 1
  | .ptr d => uptoBulk d + 1
  | .slice elems spare => uptoBulkAll elems + uptoBulkAll spare + 1
  | .agg parts => uptoBulkAll parts + 1
  | .iface _ d => uptoBulk d + 1
  | .map entries => uptoBulkEntries entries + 1
  | .held _ => 1
def uptoBulkAll {H : Type} : List (DataW H) → Nat
  | [] => 0
  | d :: r => uptoBulk d + uptoBulkAll r
def uptoBulkEntries {H : Type} : List (Lit × DataW H) → Nat
  | [] => 0
  | x :: r => uptoBulkEntry x + uptoBulkEntries r
def uptoBulkEntry {H : Type} : Lit × DataW H → Nat
  | (.string bytes, d) => bytes.length + uptoBulk d + 1
  | (_, d) => uptoBulk d + 1
 end
def uptoSmall : (H : Type) → List (DataW H) → Bool := fun _ ds => decide (uptoBulkAll ds ≤ 1048576)
def OpenSpec.upto (s : _root_.Go.ChangeSpec) : _root_.Go.OpenSpec := { _root_.Go.OpenSpec.ofChange s with cond := some uptoSmall }

/-- 'stipendtop.WholeBands', WHERE WHAT IT READS IS OF BULK AT MOST 1048576: true; the input reads as it did. -/
def wholeBandsUptoRow : OpenClaim := { program := "ytfiomckebicphaa", sum := "3a1d9184c3aad17b240556eee5ae41cc7b4fd4f3ff256852b8618d6e4436950f", func := "stipend/stipendtop.WholeBands", spec := "wholeBands", unfollowed := true, recurses := true, apart := false, narrowed := true }
def WholeBandsUptoSaid : Prop := wholeBandsUptoRow.holds Try.pinned (OpenSpec.upto wholeBandsSpec)

/-- 'stipendlaw14.HoldSteps', WHERE WHAT IT READS IS OF BULK AT MOST 1048576: true; the input reads as it did. -/
def holdStepsUptoRow : OpenClaim := { program := "ytfiomckebicphaa", sum := "3a1d9184c3aad17b240556eee5ae41cc7b4fd4f3ff256852b8618d6e4436950f", func := "stipend/stipendlaw14.HoldSteps", spec := "holdSteps", apart := false, narrowed := true }
def HoldStepsUptoSaid : Prop := holdStepsUptoRow.holds Try.pinned (OpenSpec.upto holdStepsSpec)

/-- 'stipendlaw14.HoldYear', WHERE WHAT IT READS IS OF BULK AT MOST 1048576: true; the input reads as it did. -/
def holdYearUptoRow : OpenClaim := { program := "ytfiomckebicphaa", sum := "3a1d9184c3aad17b240556eee5ae41cc7b4fd4f3ff256852b8618d6e4436950f", func := "stipend/stipendlaw14.HoldYear", spec := "holdYear", apart := false, narrowed := true }
def HoldYearUptoSaid : Prop := holdYearUptoRow.holds Try.pinned (OpenSpec.upto holdYearSpec)

/-- 'stipendlaw14.HoldLimit', WHERE WHAT IT READS IS OF BULK AT MOST 1048576: true; the input reads as it did. -/
def holdLimitUptoRow : OpenClaim := { program := "ytfiomckebicphaa", sum := "3a1d9184c3aad17b240556eee5ae41cc7b4fd4f3ff256852b8618d6e4436950f", func := "stipend/stipendlaw14.HoldLimit", spec := "holdLimit", apart := false, narrowed := true }
def HoldLimitUptoSaid : Prop := holdLimitUptoRow.holds Try.pinned (OpenSpec.upto holdLimitSpec)

/-- 'stipendlaw14.HoldRises', WHERE WHAT IT READS IS OF BULK AT MOST 1048576: true; the input reads as it did. -/
def holdRisesUptoRow : OpenClaim := { program := "ytfiomckebicphaa", sum := "3a1d9184c3aad17b240556eee5ae41cc7b4fd4f3ff256852b8618d6e4436950f", func := "stipend/stipendlaw14.HoldRises", spec := "holdRises", apart := false, narrowed := true }
def HoldRisesUptoSaid : Prop := holdRisesUptoRow.holds Try.pinned (OpenSpec.upto holdRisesSpec)

/-- 'stipendlaw02.FracRounds', WHERE WHAT IT READS IS OF BULK AT MOST 1048576: true; the input reads as it did. -/
def fracRoundsUptoRow : OpenClaim := { program := "ytfiomckebicphaa", sum := "3a1d9184c3aad17b240556eee5ae41cc7b4fd4f3ff256852b8618d6e4436950f", func := "stipend/stipendlaw02.FracRounds", spec := "fracRounds", apart := false, narrowed := true }
def FracRoundsUptoSaid : Prop := fracRoundsUptoRow.holds Try.pinned (OpenSpec.upto fracRoundsSpec)

/-- 'stipendlaw02.FracModes', WHERE WHAT IT READS IS OF BULK AT MOST 1048576: true; the input reads as it did. -/
def fracModesUptoRow : OpenClaim := { program := "ytfiomckebicphaa", sum := "3a1d9184c3aad17b240556eee5ae41cc7b4fd4f3ff256852b8618d6e4436950f", func := "stipend/stipendlaw02.FracModes", spec := "fracModes", apart := false, narrowed := true }
def FracModesUptoSaid : Prop := fracModesUptoRow.holds Try.pinned (OpenSpec.upto fracModesSpec)

/-- 'stipendlaw02.FracScales', WHERE WHAT IT READS IS OF BULK AT MOST 1048576: true; the input reads as it did. -/
def fracScalesUptoRow : OpenClaim := { program := "ytfiomckebicphaa", sum := "3a1d9184c3aad17b240556eee5ae41cc7b4fd4f3ff256852b8618d6e4436950f", func := "stipend/stipendlaw02.FracScales", spec := "fracScales", apart := false, narrowed := true }
def FracScalesUptoSaid : Prop := fracScalesUptoRow.holds Try.pinned (OpenSpec.upto fracScalesSpec)

/-- 'stipendlaw02.FracCompares', WHERE WHAT IT READS IS OF BULK AT MOST 1048576: true; the input reads as it did. -/
def fracComparesUptoRow : OpenClaim := { program := "ytfiomckebicphaa", sum := "3a1d9184c3aad17b240556eee5ae41cc7b4fd4f3ff256852b8618d6e4436950f", func := "stipend/stipendlaw02.FracCompares", spec := "fracCompares", apart := false, narrowed := true }
def FracComparesUptoSaid : Prop := fracComparesUptoRow.holds Try.pinned (OpenSpec.upto fracComparesSpec)

/-- 'stipendlaw02.FracAdds', WHERE WHAT IT READS IS OF BULK AT MOST 1048576: true; the input reads as it did. -/
def fracAddsUptoRow : OpenClaim := { program := "ytfiomckebicphaa", sum := "3a1d9184c3aad17b240556eee5ae41cc7b4fd4f3ff256852b8618d6e4436950f", func := "stipend/stipendlaw02.FracAdds", spec := "fracAdds", apart := false, narrowed := true }
def FracAddsUptoSaid : Prop := fracAddsUptoRow.holds Try.pinned (OpenSpec.upto fracAddsSpec)

/-- 'stipendlaw14.HoldRecoups', WHERE WHAT IT READS IS OF BULK AT MOST 1048576: true; the input reads as it did. -/
def holdRecoupsUptoRow : OpenClaim := { program := "ytfiomckebicphaa", sum := "3a1d9184c3aad17b240556eee5ae41cc7b4fd4f3ff256852b8618d6e4436950f", func := "stipend/stipendlaw14.HoldRecoups", spec := "holdRecoups", apart := false, narrowed := true }
def HoldRecoupsUptoSaid : Prop := holdRecoupsUptoRow.holds Try.pinned (OpenSpec.upto holdRecoupsSpec)

/-- 'stipendlaw02.FracParts', WHERE WHAT IT READS IS OF BULK AT MOST 1048576: true; the input reads as it did. -/
def fracPartsUptoRow : OpenClaim := { program := "ytfiomckebicphaa", sum := "3a1d9184c3aad17b240556eee5ae41cc7b4fd4f3ff256852b8618d6e4436950f", func := "stipend/stipendlaw02.FracParts", spec := "fracParts", apart := false, narrowed := true }
def FracPartsUptoSaid : Prop := fracPartsUptoRow.holds Try.pinned (OpenSpec.upto fracPartsSpec)

end Rows
end Go.Proofs.Ytfiomckebicphaa
