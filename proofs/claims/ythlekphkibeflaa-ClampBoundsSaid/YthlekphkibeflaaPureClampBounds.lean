/- With the parents that the document takes from the batch every start stands at zero or later, and before the greatest start and all durations together: for any batch that may be (one that is too great, empty or wrong asks the example alone). -/
import Derived.Test.YthlekphkibeflaaCC19c
set_option linter.unusedVariables false
namespace Go.Proofs.Ythlekphkibeflaa.Pure
open Go.RowKit Go.Proofs.Ythlekphkibeflaa.C Go.Proofs.YthlekphkibeflaaW.PrintWords Go.Proofs.YthlekphkibeflaaW.PrintLast Go.Proofs.Ythlekphkibeflaa.H

theorem ClampBounds : merkhetlaw19_ClampBounds.Pure := by
  intro l0 _ hw0
  obtain ⟨l, rfl, g⟩ := plain_spans l0 hw0
  apply Ev.rounds
  have jt : ∀ x0, Ev (fun k => merkhetlaw19_ClampBounds.j0 k x0 true) true := fun x0 => Ev.step (f := fun k => (merkhetlaw19_fixed.f k).bind fun t => some t) (fun k => by rw [merkhetlaw19_ClampBounds.j0, if_pos rfl]) (Ev.bind law19_fixed_ev (Ev.now _))
  unfold merkhetlaw19_ClampBounds.f
  refine Ev.bind (great_ev l) ?_
  cases c1 : greatP l with
  | true => exact Ev.congr (fun k => if_pos rfl) (jt _)
  | false =>
    obtain ⟨s1, s2⟩ := great_small c1
    have gg : gl l := fun q hq => ⟨g q hq, s2 q hq⟩
    refine Ev.congr (fun k => if_neg (by decide)) (Ev.bind (refMay18_ev l gg s1) ?_)
    cases c2 : l.all mayP with
    | false => exact Ev.congr (fun k => if_neg (by decide)) (jt _)
    | true =>
      refine Ev.congr (f := fun k => merkhetlaw19_ClampBounds.j0 k (l.map mkS) (((l.map mkS).length : Int) == 0)) (fun k => if_pos rfl) ?_
      cases c3 : (((l.map mkS).length : Int) == 0) with
      | true => exact jt _
      | false => exact bounds_ev l gg s1 c2
end Go.Proofs.Ythlekphkibeflaa.Pure
