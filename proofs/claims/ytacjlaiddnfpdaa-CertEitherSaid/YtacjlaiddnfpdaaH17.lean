/- Steps by one; places. -/
import Derived.Test.YtacjlaiddnfpdaaH12
set_option linter.unusedVariables false
namespace Go.Proofs.Ytacjlaiddnfpdaa.H
open Go.RowKit Go.Proofs.YtacjlaiddnfpdaaW.PrintWords
theorem w64s (i : Nat) (h : i < 9000000000000000000) : wrap64 ((i : Int) + 1) = ((i + 1 : Nat) : Int) := by unfold wrap64; omega
theorem rdn (l : List Int) (i : Nat) : rd l (i : Int) = l.getD i 0 := by unfold rd; rw [Int.toNat_natCast]
end Go.Proofs.Ytacjlaiddnfpdaa.H
