/- Layer 10's Of, the program's: it is the plain one of H15. -/
import Derived.Test.YtcgjplolehhpjaaKx1
import Derived.Test.YtcgjplolehhpjaaH15
set_option linter.unusedVariables false
namespace Go.Proofs.Ytcgjplolehhpjaa.K
open Go.RowKit Go.Proofs.Ytcgjplolehhpjaa.H Go.Proofs.YtcgjplolehhpjaaW.PrintWords Go.Proofs.YtcgjplolehhpjaaW.PrintLast Go.Proofs.YtcgjplolehhpjaaW.PrintMore
theorem parentOf_ev (l : List S37) (hn : l.length ≤ 1000000) (hw : ∀ s ∈ l, (Lit.int .u64 s.f1).wf = true ∧ (Lit.int .u64 s.f2).wf = true) : Ev (fun k => parent_Of.f k l) (cut (par0 (l.map fun s => s.f1) (l.map fun s => s.f2))) := by
  have hwf : parent_Of_wf l = true := List.all_eq_true.2 fun s hs => by rw [(hw s hs).1, (hw s hs).2]; rfl
  refine Ev.congr (fun k => ?_) (of_plain (par0_ok (l.map fun s => s.f1) (l.map fun s => s.f2) (by simp)))
  unfold parent_Of.f
  rw [if_pos hn, if_pos hwf]
  rfl
end Go.Proofs.Ytcgjplolehhpjaa.K
