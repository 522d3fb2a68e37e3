/- A closed fact: a year from the 6th of April on, in weeks and in months, is as the law's first lines ask. -/
import Derived.Test.YtojinnnckfimhaaX0
import Derived.Test.YtojinnnckfimhaaXstipendlaw04cuts
namespace Go.Proofs.Ytojinnnckfimhaa.Pure
open Go.RowKit Go.Proofs.Ytojinnnckfimhaa.X Go.Proofs.YtojinnnckfimhaaW.PrintWords Go.Proofs.YtojinnnckfimhaaW.PrintLast

theorem cuts_ok {k : Nat} (hk : k = 500 ∨ k = 1000 ∨ k = 11504 ∨ k = 12000) : stipendlaw04_cuts.f k = some true := by
  rcases hk with rfl | rfl | rfl | rfl
  · decide +kernel
  · decide +kernel
  · decide +kernel
  · decide +kernel
end Go.Proofs.Ytojinnnckfimhaa.Pure
