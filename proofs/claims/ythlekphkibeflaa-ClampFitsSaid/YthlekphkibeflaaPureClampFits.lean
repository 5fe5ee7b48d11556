/- Whether starts fit is what the document says, and the program's own starts fit: for any batch, parents and starts (what is too great asks the example alone). -/
import Derived.Test.YthlekphkibeflaaDC19b
import Derived.Test.YthlekphkibeflaaDx10
set_option linter.unusedVariables false
namespace Go.Proofs.Ythlekphkibeflaa.Pure
open Go.RowKit Go.Proofs.Ythlekphkibeflaa.D Go.Proofs.YthlekphkibeflaaW.PrintWords Go.Proofs.YthlekphkibeflaaW.PrintLast Go.Proofs.Ythlekphkibeflaa.H

theorem ClampFits : merkhetlaw19_ClampFits.Pure := by
  intro l0 p s _ hw0 _ _ _ _ _ _
  obtain ⟨l, rfl, g⟩ := plain_spans l0 hw0
  apply Ev.rounds
  have jt : ∀ x0 x1 x2, Ev (fun k => merkhetlaw19_ClampFits.j0 k x0 x1 x2 true) true := fun x0 x1 x2 => Ev.step (f := fun k => (merkhetlaw19_fixed.f k).bind fun t => some t) (fun k => by rw [merkhetlaw19_ClampFits.j0, if_pos rfl]) (Ev.bind law19_fixed_ev (Ev.now _))
  unfold merkhetlaw19_ClampFits.f
  refine Ev.bind (great_ev l) ?_
  cases c1 : greatP l with
  | true => exact Ev.congr (fun k => if_pos rfl) (jt _ _ _)
  | false =>
    obtain ⟨s1, s2⟩ := great_small c1
    have gg : gl l := fun q hq => ⟨g q hq, s2 q hq⟩
    refine Ev.congr (fun k => if_neg (by decide)) ?_
    by_cases c2 : (p.length : Int) > 60
    · exact Ev.congr (fun k => if_pos c2) (jt _ _ _)
    refine Ev.congr (f := fun k => merkhetlaw19_ClampFits.j0 k (l.map mkS) p s (decide ((s.length : Int) > 60))) (fun k => if_neg c2) ?_
    by_cases c3 : (s.length : Int) > 60
    · rw [decide_eq_true c3]; exact jt _ _ _
    rw [decide_eq_false c3]
    refine Ev.step (f := fun k => (clamp_Starts.f k (l.map mkS) p).bind fun bt227 => ((merkhetlaw19_fixed.f k).bind fun t231 => (if t231 = true then ((clamp_Fits.f k (l.map mkS) p s).bind fun t232 => ((merkhetref19_Fits.f k (l.map mkS) p s).bind fun t233 => (if (t232 == t233) = true then (if bt227.2 = true then ((clamp_Fits.f k (l.map mkS) p bt227.1).bind fun t234 => (some t234)) else (some true)) else (some false)))) else (some false)))) (fun k => by rw [merkhetlaw19_ClampFits.j0, if_neg (by decide)]) ?_
    refine Ev.bind (clampStarts_ev l p gg s1) (Ev.bind law19_fixed_ev ?_)
    refine Ev.congr (fun k => if_pos rfl) (Ev.bind (clampFits_ev l p s gg s1) (Ev.bind (refFits_ev l p s gg s1) ?_))
    refine Ev.congr (fun k => if_pos (by simp)) ?_
    unfold startsR
    cases c4 : rightP l p with
    | false => exact Ev.congr (f := fun _ => some true) (fun k => by rw [if_neg Bool.false_ne_true, if_neg Bool.false_ne_true]) (Ev.now _)
    | true =>
      have hf := clampFits_ev l p (startsP l p) gg s1
      rw [starts_fit c4 s1] at hf
      exact Ev.congr (f := fun k => (clamp_Fits.f k (l.map mkS) p (startsP l p)).bind fun t234 => some t234) (fun k => by rw [if_pos rfl, if_pos rfl]) (Ev.bind hf (Ev.now _))
end Go.Proofs.Ythlekphkibeflaa.Pure
