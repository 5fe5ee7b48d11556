/- Who is below whom, among any spans, is the document's: the plain law: both are the places of the parents, each cycle cut at its least place. No conditions. -/
import Derived.Test.YtcgjplolehhpjaaPx4
import Derived.Test.YtcgjplolehhpjaaPC10c
import Derived.Test.YtcgjplolehhpjaaPC10d
import Derived.Test.YtcgjplolehhpjaaPC10f
namespace Go.Proofs.Ytcgjplolehhpjaa.Pure
open Go.RowKit Go.Proofs.Ytcgjplolehhpjaa.P Go.Proofs.Ytcgjplolehhpjaa.H Go.Proofs.YtcgjplolehhpjaaW.PrintWords Go.Proofs.YtcgjplolehhpjaaW.PrintLast

theorem ParentOf : merkhetlaw10_ParentOf.Pure := by
  intro l hl hw
  refine Ev.rounds (g := fun k => merkhetlaw10_ParentOf.f k l) ?_
  unfold merkhetlaw10_ParentOf.f
  by_cases c : (l.length : Int) > 60
  · refine Ev.congr (fun k => by rw [if_pos c]) ?_
    exact Ev.bind law10_fixed_ev (Ev.now _)
  · refine Ev.congr (fun k => by rw [if_neg c]) ?_
    refine Ev.bind law10_fixed_ev (Ev.congr (fun k => by rw [if_pos rfl]) ?_)
    refine Ev.bind (parentOf_ev l (by omega) (fun s hs => ⟨(hw s hs).2.1, (hw s hs).2.2.1⟩)) ?_
    refine Ev.bind (refOf_ev l (by omega)) ?_
    refine Ev.bind (same_ev _ _ (by rw [cut_length]; simp [par0]; omega)) ?_
    rw [show decide (cut (par0 (l.map fun s => s.f1) (l.map fun s => s.f2)) = cut (parS l)) = true from decide_eq_true rfl]
    exact Ev.now _
end Go.Proofs.Ytcgjplolehhpjaa.Pure
