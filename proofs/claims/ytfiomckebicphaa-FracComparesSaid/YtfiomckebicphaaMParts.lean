/- Plain facts on the functions of the package frac: floor, Round, Right, Part, Take, Scale, as far as the laws of stipendlaw02 and stipendlaw14 need them. -/
import Derived.Test.YtfiomckebicphaaX0
import Derived.Test.YtfiomckebicphaaXstipendlaw02parts
namespace Go.Proofs.Ytfiomckebicphaa.Pure
open Go.RowKit Go.Proofs.Ytfiomckebicphaa.X Go.Proofs.YtfiomckebicphaaW.PrintWords Go.Proofs.YtfiomckebicphaaW.PrintLast
theorem parts_ok (k : Nat) : stipendlaw02_parts.f (k + 70) = some true := by
  induction k with
  | zero => decide +kernel
  | succ k ih => exact stipendlaw02_parts.mono (k + 70) _ ih
end Go.Proofs.Ytfiomckebicphaa.Pure
