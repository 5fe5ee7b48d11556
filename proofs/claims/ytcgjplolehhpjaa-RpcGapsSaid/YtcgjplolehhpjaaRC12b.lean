/- Layer 12's lead and rest, the document's. -/
import Derived.Test.YtcgjplolehhpjaaRx6
import Derived.Test.YtcgjplolehhpjaaRC12a
set_option linter.unusedVariables false
namespace Go.Proofs.Ytcgjplolehhpjaa.R
open Go.RowKit Go.Proofs.Ytcgjplolehhpjaa.H Go.Proofs.YtcgjplolehhpjaaW.PrintWords Go.Proofs.YtcgjplolehhpjaaW.PrintLast Go.Proofs.YtcgjplolehhpjaaW.PrintMore
theorem refgaps_ev {l : List S37} (f : fineL l) (p q : Int) : Ev (fun k => merkhetref12_Gaps.f k l p q) (gapsS l p q) := by
  unfold merkhetref12_Gaps.f gapsS
  by_cases c1 : 0 ≤ p
  case neg =>
    rw [if_neg (show ¬ bothS l p q from fun h => c1 h.1.1)]
    exact Ev.congr (f := fun _ => some _) (fun k => by rw [if_neg c1]) (Ev.now _)
  by_cases c2 : p < (l.length : Int)
  case neg =>
    rw [if_neg (show ¬ bothS l p q from fun h => c2 h.1.2.1)]
    exact Ev.congr (f := fun _ => some _) (fun k => by rw [if_pos c1, if_neg c2]) (Ev.now _)
  by_cases c3 : 0 ≤ q
  case neg =>
    rw [if_neg (show ¬ bothS l p q from fun h => c3 h.2.1)]
    exact Ev.congr (f := fun _ => some _) (fun k => by rw [if_pos c1, if_pos c2, if_neg c3]) (Ev.now _)
  by_cases c4 : q < (l.length : Int)
  case neg =>
    rw [if_neg (show ¬ bothS l p q from fun h => c4 h.2.2.1)]
    exact Ev.congr (f := fun _ => some _) (fun k => by rw [if_pos c1, if_pos c2, if_pos c3, if_neg c4]) (Ev.now _)
  refine Ev.congr (fun k => by rw [if_pos c1, if_pos c2, if_pos c3, if_pos c4]) ?_
  have fp := f.2 _ (rdS_mem c1 c2)
  have fq := f.2 _ (rdS_mem c3 c4)
  refine Ev.bind (refmay_ev fp) ?_
  by_cases m1 : mayS (rd_T37 l p) = true
  case neg =>
    rw [if_neg (show ¬ bothS l p q from fun h => m1 h.1.2.2)]
    exact Ev.congr (f := fun _ => some _) (fun k => by rw [if_neg m1]) (Ev.now _)
  refine Ev.congr (fun k => by rw [if_pos m1]) ?_
  refine Ev.bind (refmay_ev fq) ?_
  by_cases m2 : mayS (rd_T37 l q) = true
  case neg =>
    rw [if_neg (show ¬ bothS l p q from fun h => m2 h.2.2.2)]
    exact Ev.congr (f := fun _ => some _) (fun k => by rw [if_neg m2]) (Ev.now _)
  rw [if_pos (show bothS l p q from ⟨⟨c1, c2, m1⟩, c3, c4, m2⟩)]
  have h1 := may_in fp m1
  have h2 := may_in fq m2
  have hw := wrapG _ _ _ _ ⟨h1.1, h1.2.1⟩ ⟨h2.1, h2.2.1⟩ ⟨h1.2.2.1, h1.2.2.2⟩ ⟨h2.2.2.1, h2.2.2.2⟩
  refine Ev.congr (f := fun _ => some _) (fun k => ?_) (Ev.now _)
  rw [if_pos m2, hw.2.2, hw.1]
end Go.Proofs.Ytcgjplolehhpjaa.R
