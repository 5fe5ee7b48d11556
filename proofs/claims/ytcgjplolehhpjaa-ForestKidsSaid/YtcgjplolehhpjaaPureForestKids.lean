/- Whose parent any place is, of any parents, is the document's: for rows of any length (beyond 60 places the law asks its example alone). -/
import Derived.Test.YtcgjplolehhpjaaOx5
import Derived.Test.YtcgjplolehhpjaaOC11b
import Derived.Test.YtcgjplolehhpjaaOC10a
namespace Go.Proofs.Ytcgjplolehhpjaa.Pure
open Go.RowKit Go.Proofs.Ytcgjplolehhpjaa.O Go.Proofs.Ytcgjplolehhpjaa.H Go.Proofs.YtcgjplolehhpjaaW.PrintWords Go.Proofs.YtcgjplolehhpjaaW.PrintLast
theorem ForestKids : merkhetlaw11_ForestKids.Pure := by
  intro p a
  intros
  refine Ev.rounds (g := fun k => merkhetlaw11_ForestKids.f k p a) ?_
  unfold merkhetlaw11_ForestKids.f
  by_cases c : (p.length : Int) > 60
  · exact Ev.congr (fun k => by rw [if_pos c]) (Ev.bind law11_fixed_ev (Ev.now _))
  have hl : p.length ≤ 60 := by omega
  refine Ev.congr (fun k => by rw [if_neg c]) (Ev.bind law11_fixed_ev (Ev.congr (fun k => by rw [if_pos rfl]) ?_))
  have hk := kidsI_length_le p p.length a
  refine Ev.bind (forestKids_ev p a (by omega)) (Ev.bind (refKids_ev p a (by omega)) (Ev.bind (same_ev _ _ (by omega)) ?_))
  exact Ev.congr (f := fun _ => some true) (fun k => by rw [decide_eq_true rfl]) (Ev.now _)
end Go.Proofs.Ytcgjplolehhpjaa.Pure
