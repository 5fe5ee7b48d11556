/- Layer 2's example. -/
import Derived.Test.YtknigpdglbknhaaQC5
import Derived.Test.YtknigpdglbknhaaQx1
set_option linter.unusedVariables false
set_option linter.unusedSimpArgs false
namespace Go.Proofs.Ytknigpdglbknhaa.Q
open Go.RowKit Go.Proofs.YtknigpdglbknhaaW.PrintWords Go.Proofs.YtknigpdglbknhaaW.PrintLast Go.Proofs.YtknigpdglbknhaaW.PrintMore Go.Proofs.Ytknigpdglbknhaa.H

theorem law02_fixed : merkhetlaw02_fixed.f = some true := by
  unfold merkhetlaw02_fixed.f
  have h1 := pack_Put_nat [] 513 2 (by decide)
  have h2 := pack_PutText_nat [] [97, 98] (fun x hx => by simp at hx; omega) (by decide)
  rw [show (rowB [] : List Int) = [] from rfl] at h1 h2
  rw [show ((513 : Nat) : Int) = 513 from rfl] at h1
  rw [h1]
  simp only [Option.bind_some]
  rw [strOf_rowB, txt_toList, if_pos (by decide), show (⟨#[97, 98]⟩ : ByteArray) = txt [97, 98] from rfl, h2]
  simp only [Option.bind_some]
  rw [strOf_rowB, txt_toList]
  decide
end Go.Proofs.Ytknigpdglbknhaa.Q
