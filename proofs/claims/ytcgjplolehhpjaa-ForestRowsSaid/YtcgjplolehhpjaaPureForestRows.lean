/- The row of any parents, and how deep it is, are the document's: for rows of any length (beyond 60 places the law asks its example alone). -/
import Derived.Test.YtcgjplolehhpjaaOx5
import Derived.Test.YtcgjplolehhpjaaOC11b
namespace Go.Proofs.Ytcgjplolehhpjaa.Pure
open Go.RowKit Go.Proofs.Ytcgjplolehhpjaa.O Go.Proofs.Ytcgjplolehhpjaa.H Go.Proofs.YtcgjplolehhpjaaW.PrintWords Go.Proofs.YtcgjplolehhpjaaW.PrintLast
theorem ForestRows : merkhetlaw11_ForestRows.Pure := by
  intro p
  intros
  refine Ev.rounds (g := fun k => merkhetlaw11_ForestRows.f k p) ?_
  unfold merkhetlaw11_ForestRows.f
  by_cases c : (p.length : Int) > 60
  · exact Ev.congr (fun k => by rw [if_pos c]) (Ev.bind law11_fixed_ev (Ev.now _))
  have hl : p.length ≤ 60 := by omega
  refine Ev.congr (fun k => by rw [if_neg c]) (Ev.bind law11_fixed_ev (Ev.congr (fun k => by rw [if_pos rfl]) ?_))
  refine Ev.bind (forestRow_ev p (by omega)) (Ev.bind (refRow_ev p hl) (Ev.bind (same11_refl _ (Nat.le_trans (itemsP_length p (by omega)) (by omega))) (Ev.congr (fun k => by rw [if_pos rfl]) ?_)))
  refine Ev.bind (forestDepth_ev p (by omega)) (Ev.bind (refDepth_ev p hl) ?_)
  exact Ev.congr (f := fun _ => some true) (fun k => by rw [beq_self_eq_true]) (Ev.now _)
end Go.Proofs.Ytcgjplolehhpjaa.Pure
