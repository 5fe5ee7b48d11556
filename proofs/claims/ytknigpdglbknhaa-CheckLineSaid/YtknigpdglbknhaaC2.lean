/- The example of layer 3's law. -/
import Derived.Test.YtknigpdglbknhaaC0
import Derived.Test.YtknigpdglbknhaaMx1
namespace Go.Proofs.Ytknigpdglbknhaa.M
open Go.RowKit Go.Proofs.YtknigpdglbknhaaW.PrintWords Go.Proofs.YtknigpdglbknhaaW.PrintLast Go.Proofs.Ytknigpdglbknhaa.H
theorem law03_fixed : merkhetlaw03_fixed.f = some true := by
  have h1 := check_Sum_nat [49, 50, 51, 52, 53, 54, 55, 56, 57] (by decide)
  have h2 := check_Sum_nat [] (by decide)
  have e1 : sumFrom 0 [49, 50, 51, 52, 53, 54, 55, 56, 57] = 3421780262 := by decide +kernel
  have e2 : sumFrom 0 [] = 0 := by decide +kernel
  rw [e1] at h1
  rw [e2] at h2
  unfold merkhetlaw03_fixed.f
  rw [show ([49, 50, 51, 52, 53, 54, 55, 56, 57] : List Int) = List.map (fun n : Nat => (n : Int)) [49, 50, 51, 52, 53, 54, 55, 56, 57] from rfl, h1]
  rw [show ([] : List Int) = List.map (fun n : Nat => (n : Int)) [] from rfl, h2]
  rfl
end Go.Proofs.Ytknigpdglbknhaa.M
