/- The program's starts, and whether they can be told, are the document's: for any batch and any parents (what is too great asks the example alone), and with the parents that the document takes from the batch. -/
import Derived.Test.YthlekphkibeflaaCC19a
import Derived.Test.YthlekphkibeflaaCx9
set_option linter.unusedVariables false
namespace Go.Proofs.Ythlekphkibeflaa.Pure
open Go.RowKit Go.Proofs.Ythlekphkibeflaa.C Go.Proofs.YthlekphkibeflaaW.PrintWords Go.Proofs.YthlekphkibeflaaW.PrintLast Go.Proofs.Ythlekphkibeflaa.H

theorem ClampStarts : merkhetlaw19_ClampStarts.Pure := by
  intro l0 p _ hw0 _ _ _
  obtain ⟨l, rfl, g⟩ := plain_spans l0 hw0
  apply Ev.rounds
  have jt : ∀ x0 x1, Ev (fun k => merkhetlaw19_ClampStarts.j0 k x0 x1 true) true := fun x0 x1 => Ev.step (f := fun k => (merkhetlaw19_fixed.f k).bind fun t => some t) (fun k => by rw [merkhetlaw19_ClampStarts.j0, if_pos rfl]) (Ev.bind law19_fixed_ev (Ev.now _))
  unfold merkhetlaw19_ClampStarts.f
  refine Ev.bind (great_ev l) ?_
  cases c1 : greatP l with
  | true => exact Ev.congr (fun k => if_pos rfl) (jt _ _)
  | false =>
    obtain ⟨s1, s2⟩ := great_small c1
    have gg : gl l := fun q hq => ⟨g q hq, s2 q hq⟩
    refine Ev.congr (f := fun k => merkhetlaw19_ClampStarts.j0 k (l.map mkS) p (decide ((p.length : Int) > 60))) (fun k => if_neg (by decide)) ?_
    by_cases c2 : (p.length : Int) > 60
    · rw [decide_eq_true c2]; exact jt _ _
    rw [decide_eq_false c2]
    have hOf := refOf_ev (l.map mkS) (by rw [List.length_map]; omega)
    generalize cut (parS (l.map mkS)) = pp at hOf
    have e1 := startsR_length l p s1
    have e2 := startsR_length l pp s1
    refine Ev.step (f := fun k => (clamp_Starts.f k (l.map mkS) p).bind fun bt169 => ((merkhetref19_Starts.f k (l.map mkS) p).bind fun bt173 => ((merkhetref10_Of.f k (l.map mkS)).bind fun t177 => ((clamp_Starts.f k (l.map mkS) t177).bind fun bt180 => ((merkhetref10_Of.f k (l.map mkS)).bind fun t184 => ((merkhetref19_Starts.f k (l.map mkS) t184).bind fun bt187 => ((merkhetlaw19_fixed.f k).bind fun t191 => (if t191 = true then ((merkhetref15_Same.f k bt169.1 bt173.1).bind fun t192 => (if t192 = true then (if (bt169.2 == bt173.2) = true then ((merkhetref15_Same.f k bt180.1 bt187.1).bind fun t193 => (if t193 = true then (some (bt180.2 == bt187.2)) else (some false))) else (some false)) else (some false))) else (some false)))))))) ) (fun k => by rw [merkhetlaw19_ClampStarts.j0, if_neg (by decide)]) ?_
    refine Ev.bind (clampStarts_ev l p gg s1) (Ev.bind (refStarts_ev l p gg s1) (Ev.bind hOf (Ev.bind (clampStarts_ev l pp gg s1) (Ev.bind hOf (Ev.bind (refStarts_ev l pp gg s1) (Ev.bind law19_fixed_ev ?_))))))
    refine Ev.congr (fun k => if_pos rfl) (Ev.bind (same15_refl _ e1) ?_)
    refine Ev.congr (fun k => (if_pos rfl).trans (if_pos (by simp))) (Ev.bind (same15_refl _ e2) ?_)
    exact Ev.congr (f := fun _ => some true) (fun k => (if_pos rfl).trans (by simp)) (Ev.now _)
end Go.Proofs.Ythlekphkibeflaa.Pure
