/- Layer 10's Right, the program's. -/
import Derived.Test.YtcgjplolehhpjaaKx1
import Derived.Test.YtcgjplolehhpjaaH15
set_option linter.unusedVariables false
namespace Go.Proofs.Ytcgjplolehhpjaa.K
open Go.RowKit Go.Proofs.Ytcgjplolehhpjaa.H Go.Proofs.YtcgjplolehhpjaaW.PrintWords Go.Proofs.YtcgjplolehhpjaaW.PrintLast Go.Proofs.YtcgjplolehhpjaaW.PrintMore
open Classical in
theorem parentRight_ev (p : List Int) (hn : p.length ≤ 1000000) : Ev (fun k => parent_Right.f k p) (decide (okP p ∧ ∀ a, a < (p.length : Int) → ¬ cyc p a)) := by
  by_cases h : okP p
  · obtain ⟨b, hb, hiff⟩ := right_plain h
    refine Ev.congr (fun k => ?_) (show Ev (fun k => (cyclesF k p).map (fun fs => fs.isEmpty)) _ from ?_)
    · unfold parent_Right.f
      rw [if_pos hn, if_pos (okB_iff.2 h)]
    · rw [show decide (okP p ∧ ∀ a, a < (p.length : Int) → ¬ cyc p a) = b by
        rw [Bool.eq_iff_iff, decide_eq_true_eq, hiff]
        exact ⟨fun h => h.2, fun h2 => ⟨h, h2⟩⟩]
      exact hb
  · rw [decide_eq_false (fun h2 => h h2.1)]
    refine Ev.congr (f := fun _ => some false) (fun k => ?_) (Ev.now _)
    unfold parent_Right.f
    rw [if_pos hn, if_neg (fun h2 => h (okB_iff.1 h2))]
end Go.Proofs.Ytcgjplolehhpjaa.K
