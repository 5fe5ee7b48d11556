/- Whether any places are a forest's parents is the document's: both tell whether each place is one of these, or -1, and no place is on a cycle. No conditions. -/
import Derived.Test.YtcgjplolehhpjaaPx4
import Derived.Test.YtcgjplolehhpjaaPC10e
import Derived.Test.YtcgjplolehhpjaaPC10f
import Derived.Test.YtcgjplolehhpjaaPC10g
namespace Go.Proofs.Ytcgjplolehhpjaa.Pure
open Go.RowKit Go.Proofs.Ytcgjplolehhpjaa.P Go.Proofs.Ytcgjplolehhpjaa.H Go.Proofs.YtcgjplolehhpjaaW.PrintWords Go.Proofs.YtcgjplolehhpjaaW.PrintLast

theorem ParentRight : merkhetlaw10_ParentRight.Pure := by
  intro p hl _ _
  refine Ev.rounds (g := fun k => merkhetlaw10_ParentRight.f k p) ?_
  unfold merkhetlaw10_ParentRight.f
  by_cases c : (p.length : Int) > 60
  · refine Ev.congr (fun k => by rw [if_pos c]) ?_
    exact Ev.bind law10_fixed_ev (Ev.now _)
  · refine Ev.congr (fun k => by rw [if_neg c]) ?_
    refine Ev.bind law10_fixed_ev (Ev.congr (fun k => by rw [if_pos rfl]) ?_)
    refine Ev.bind (parentRight_ev p (by omega)) ?_
    refine Ev.bind (refRight_ev p (by omega)) ?_
    rw [beq_self_eq_true]
    exact Ev.now _
end Go.Proofs.Ytcgjplolehhpjaa.Pure
