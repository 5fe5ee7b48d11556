/- Layer 10's comparison, the document's: it tells whether two rows of places are one. -/
import Derived.Test.YtcgjplolehhpjaaOx5
import Derived.Test.YtcgjplolehhpjaaH17
set_option linter.unusedVariables false
namespace Go.Proofs.Ytcgjplolehhpjaa.O
open Go.RowKit Go.Proofs.Ytcgjplolehhpjaa.H Go.Proofs.YtcgjplolehhpjaaW.PrintWords Go.Proofs.YtcgjplolehhpjaaW.PrintLast Go.Proofs.YtcgjplolehhpjaaW.PrintMore
theorem same_l0 (a b : List Int) (hl : a.length = b.length) (hn : a.length < 9000000000000000000) : ∀ (d i : Nat), a.length - i = d → i ≤ a.length → Ev (fun k => merkhetref10_Same.l0 k a b (i : Int)) (decide (a.drop i = b.drop i)) := by
  intro d
  induction d with
  | zero =>
    intro i hd hi
    refine Ev.step (f := fun _ => some true) (fun k => by rw [merkhetref10_Same.l0, if_neg (by omega)]) ?_
    rw [List.drop_of_length_le (by omega), List.drop_of_length_le (by omega)]
    exact Ev.now _
  | succ d ih =>
    intro i hd hi
    have hlt : i < a.length := by omega
    have e1 : a.drop i = a.getD i 0 :: a.drop (i + 1) := by rw [List.drop_eq_getElem_cons hlt, List.getD_eq_getElem?_getD, List.getElem?_eq_getElem hlt]; rfl
    have e2 : b.drop i = b.getD i 0 :: b.drop (i + 1) := by rw [List.drop_eq_getElem_cons (by omega), List.getD_eq_getElem?_getD, List.getElem?_eq_getElem (by omega)]; rfl
    by_cases c : a.getD i 0 = b.getD i 0
    · refine Ev.step (f := fun k => merkhetref10_Same.l0 k a b ((i + 1 : Nat) : Int)) (fun k => by rw [merkhetref10_Same.l0, if_pos (by omega), if_pos (by omega), if_pos (by omega), rdn, rdn, if_pos c, w64s i (by omega)]) ?_
      have h_ := ih (i + 1) (by omega) (by omega)
      rw [show decide (a.drop i = b.drop i) = decide (a.drop (i + 1) = b.drop (i + 1)) by rw [e1, e2, c]; simp]
      exact h_
    · refine Ev.step (f := fun _ => some false) (fun k => by rw [merkhetref10_Same.l0, if_pos (by omega), if_pos (by omega), if_pos (by omega), rdn, rdn, if_neg c]) ?_
      rw [show decide (a.drop i = b.drop i) = false from decide_eq_false (fun e => by rw [e1, e2] at e; exact c (List.cons.inj e).1)]
      exact Ev.now _
theorem same_ev (a b : List Int) (hn : a.length < 9000000000000000000) : Ev (fun k => merkhetref10_Same.f k a b) (decide (a = b)) := by
  unfold merkhetref10_Same.f
  by_cases hl : a.length = b.length
  · have h_ := same_l0 a b hl hn a.length 0 rfl (Nat.zero_le _)
    refine Ev.congr (f := fun k => merkhetref10_Same.l0 k a b ((0 : Nat) : Int)) (fun k => by rw [if_pos (by omega)]; rfl) ?_
    simpa using h_
  · refine Ev.congr (f := fun _ => some false) (fun k => by rw [if_neg (by omega)]) ?_
    rw [show decide (a = b) = false from decide_eq_false (fun e => hl (by rw [e]))]
    exact Ev.now _
end Go.Proofs.Ytcgjplolehhpjaa.O
