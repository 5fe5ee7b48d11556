/- Whether a pair is within. -/
import Derived.Test.YtcgjplolehhpjaaSx6
import Derived.Test.YtcgjplolehhpjaaSC12a
set_option linter.unusedVariables false
namespace Go.Proofs.Ytcgjplolehhpjaa.S
open Go.RowKit Go.Proofs.Ytcgjplolehhpjaa.H Go.Proofs.YtcgjplolehhpjaaW.PrintWords Go.Proofs.YtcgjplolehhpjaaW.PrintLast Go.Proofs.YtcgjplolehhpjaaW.PrintMore
theorem within_ev {l : List S37} (f : fineL l) (p q : Int) : Ev (fun k => rpc_Within.f k l p q) ((gapsS l p q).2.2 && (decide ((gapsS l p q).1 ≥ 0) && decide ((gapsS l p q).2.1 ≥ 0))) := by
  unfold rpc_Within.f
  refine Ev.bind (gaps_ev f p q) ?_
  obtain ⟨x, y, b⟩ := gapsS l p q
  cases b with
  | false => exact Ev.congr (f := fun _ => some _) (fun k => by rw [if_neg Bool.false_ne_true]; rfl) (Ev.now _)
  | true =>
    by_cases c : x ≥ 0
    · exact Ev.congr (f := fun _ => some _) (fun k => by rw [if_pos rfl, if_pos c, decide_eq_true c, Bool.true_and, Bool.true_and]) (Ev.now _)
    · exact Ev.congr (f := fun _ => some _) (fun k => by rw [if_pos rfl, if_neg c, decide_eq_false c]; rfl) (Ev.now _)
end Go.Proofs.Ytcgjplolehhpjaa.S
