/- Any batch's bytes, or that it has none, are the document's, and they are read as it: for any batch (one that is too great asks the example alone). -/
import Derived.Test.YtdpodjgggicaoaaWC7s
import Derived.Test.YtdpodjgggicaoaaWC7f
import Derived.Test.YtdpodjgggicaoaaWC7r
import Derived.Test.YtdpodjgggicaoaaWC7g
import Derived.Test.YtdpodjgggicaoaaWx12
set_option linter.unusedVariables false
namespace Go.Proofs.Ytdpodjgggicaoaa.Pure
open Go.RowKit Go.Proofs.Ytdpodjgggicaoaa.W Go.Proofs.YtdpodjgggicaoaaW.PrintWords Go.Proofs.YtdpodjgggicaoaaW.PrintLast Go.Proofs.Ytdpodjgggicaoaa.H

theorem WirePuts : merkhetlaw04_WirePuts.Pure := by
  intro l0 _ hw0
  obtain ⟨l, rfl, g⟩ := plain_spans l0 hw0
  apply Ev.rounds
  unfold merkhetlaw04_WirePuts.f
  refine Ev.bind (great_ev l) ?_
  cases c1 : greatP l with
  | true => exact Ev.congr (fun k => if_pos rfl) (Ev.bind law04_fixed_ev (Ev.now _))
  | false =>
    obtain ⟨s1, s2⟩ := great_small c1
    have gh : ∀ p ∈ l, p.h.length < 4611686018427387904 ∧ p.n.length < 4611686018427387904 := fun p hp => by have := s2 p hp; omega
    refine Ev.congr (fun k => if_neg (by decide)) (Ev.bind (wire_Put_ev l g gh) (Ev.bind (ref_Put4_ev l g gh) ?_))
    refine Ev.congr (f := fun k => merkhetlaw04_WirePuts.j0 k (l.map mkS) (rowB (wirePut l).1) (wirePut l).2 false) (fun k => by rw [strOf_rowB, if_pos rfl, bne_self_eq_false]) ?_
    by_cases h : (wirePut l).2 = 0
    · have hg := wire_Get_ev (wirePut l).1 (wirePut_isB g) (by have := wirePut_length l; omega)
      rw [wireGet_put g h] at hg
      refine Ev.step (f := fun k => (wire_Get.f k (rowB (wirePut l).1)).bind fun bt286 => ((merkhetlaw04_fixed.f k).bind fun t290 => (if t290 = true then (if bt286.2 = 0 then ((merkhetref01_Same.f k bt286.1 (l.map mkS)).bind fun t291 => (some t291)) else (some false)) else (some false)))) (fun k => by rw [merkhetlaw04_WirePuts.j0, if_neg (by decide), if_pos h]) ?_
      refine Ev.bind hg (Ev.bind law04_fixed_ev ?_)
      have hs := same_ev l l (fun p hp => ⟨(g p hp).h, (g p hp).n⟩) (fun p hp => ⟨(g p hp).h, (g p hp).n⟩) (by omega)
      rw [decide_eq_true rfl] at hs
      exact Ev.congr (f := fun k => (merkhetref01_Same.f k (l.map mkS) (l.map mkS)).bind fun t291 => (some t291)) (fun k => (if_pos rfl).trans (if_pos rfl)) (Ev.bind hs (Ev.now _))
    · exact Ev.step (f := fun k => (merkhetlaw04_fixed.f k).bind fun t => some t) (fun k => by rw [merkhetlaw04_WirePuts.j0, if_neg (by decide), if_neg h]) (Ev.bind law04_fixed_ev (Ev.now _))
end Go.Proofs.Ytdpodjgggicaoaa.Pure
