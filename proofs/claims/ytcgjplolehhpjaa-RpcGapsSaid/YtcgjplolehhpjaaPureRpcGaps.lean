/- Lead and rest of any pair of places, and whether it is within, are the document's: both are the plain ones. No conditions. -/
import Derived.Test.YtcgjplolehhpjaaRx6
import Derived.Test.YtcgjplolehhpjaaRC12b
import Derived.Test.YtcgjplolehhpjaaRC12f
import Derived.Test.YtcgjplolehhpjaaRC12w
namespace Go.Proofs.Ytcgjplolehhpjaa.Pure
open Go.RowKit Go.Proofs.Ytcgjplolehhpjaa.R Go.Proofs.Ytcgjplolehhpjaa.H Go.Proofs.YtcgjplolehhpjaaW.PrintWords Go.Proofs.YtcgjplolehhpjaaW.PrintLast

theorem RpcGaps : merkhetlaw12_RpcGaps.Pure := by
  intro l p q hl hw hp hq
  refine Ev.rounds (g := fun k => merkhetlaw12_RpcGaps.f k l p q) ?_
  unfold merkhetlaw12_RpcGaps.f
  refine Ev.bind (greatS_ev l) ?_
  by_cases c : greatS l = true
  · refine Ev.congr (fun k => by rw [if_pos c]) ?_
    exact Ev.bind law12_fixed_ev (Ev.now _)
  · refine Ev.congr (fun k => by rw [if_neg c]) ?_
    have f := fineL_of hw (by simpa using c)
    refine Ev.bind (gaps_ev f p q) (Ev.bind (refgaps_ev f p q) (Ev.bind law12_fixed_ev ?_))
    refine Ev.congr (fun k => by rw [if_pos rfl, if_pos rfl, if_pos rfl, if_pos (beq_self_eq_true _)]) ?_
    refine Ev.bind (within_ev f p q) ?_
    obtain ⟨x, y, b⟩ := gapsS l p q
    cases b with
    | false => exact Ev.congr (f := fun _ => some true) (fun k => by rw [if_neg Bool.false_ne_true]; rfl) (Ev.now _)
    | true =>
      by_cases c : x ≥ 0
      · exact Ev.congr (f := fun _ => some true) (fun k => by rw [if_pos rfl, if_pos c, decide_eq_true c, Bool.true_and, Bool.true_and, beq_self_eq_true]) (Ev.now _)
      · exact Ev.congr (f := fun _ => some true) (fun k => by rw [if_pos rfl, if_neg c, decide_eq_false c]; rfl) (Ev.now _)
end Go.Proofs.Ytcgjplolehhpjaa.Pure
