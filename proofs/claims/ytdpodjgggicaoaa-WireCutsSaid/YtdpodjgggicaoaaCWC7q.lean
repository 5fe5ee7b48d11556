/- What is too great for layer 4's laws. -/
import Derived.Test.YtdpodjgggicaoaaCWC7k
import Derived.Test.YtdpodjgggicaoaaCWx2
set_option linter.unusedVariables false
set_option linter.unusedSimpArgs false
namespace Go.Proofs.Ytdpodjgggicaoaa.CW
open Go.RowKit Go.Proofs.YtdpodjgggicaoaaW.PrintWords Go.Proofs.YtdpodjgggicaoaaW.PrintLast Go.Proofs.YtdpodjgggicaoaaW.PrintMore Go.Proofs.Ytdpodjgggicaoaa.H

/-- More than is gone through? -/
def greatP (l : List PS) : Bool := decide (60 < l.length) || l.any fun p => decide (100 < p.h.length) || decide (100 < p.n.length)
theorem great_l0 (l : List PS) (hl : l.length ≤ 60) : ∀ (d i : Nat), i + d = l.length → Ev (fun k => merkhetlaw04_Great.l0 k (l.map mkS) (l.length : Int) (i : Int)) ((l.drop i).any fun p => decide (100 < p.h.length) || decide (100 < p.n.length)) := by
  intro d
  induction d with
  | zero =>
    intro i hi
    rw [List.drop_of_length_le (by omega)]
    exact Ev.step (f := fun _ => some false) (fun k => by rw [merkhetlaw04_Great.l0, if_neg (by omega)]) (Ev.now _)
  | succ d ih =>
    intro i hi
    have hil : i < l.length := by omega
    have e : wrap64 ((i : Int) + 1) = ((i + 1 : Nat) : Int) := w64_ _ (by omega) (by omega)
    have e4 : (((mkS l[i]).f4).size : Int) = (l[i].h.length : Int) := by show ((txt l[i].h).size : Int) = _; rw [txt_size]
    have e5 : (((mkS l[i]).f5).size : Int) = (l[i].n.length : Int) := by show ((txt l[i].n).size : Int) = _; rw [txt_size]
    rw [List.drop_eq_getElem_cons hil, List.any_cons]
    by_cases c1 : (l[i].h.length : Int) > 100
    · rw [decide_eq_true (show 100 < l[i].h.length by omega), Bool.true_or, Bool.true_or]
      exact Ev.step (f := fun _ => some true) (fun k => by rw [merkhetlaw04_Great.l0, if_pos (by omega), if_pos (by omega), if_pos (by rw [List.length_map]; omega), rd_mkS l i hil, e4, if_pos c1]) (Ev.now _)
    · rw [decide_eq_false (show ¬ 100 < l[i].h.length by omega), Bool.false_or]
      by_cases c2 : (l[i].n.length : Int) > 100
      · rw [decide_eq_true (show 100 < l[i].n.length by omega), Bool.true_or]
        exact Ev.step (f := fun _ => some true) (fun k => by rw [merkhetlaw04_Great.l0, if_pos (by omega), if_pos (by omega), if_pos (by rw [List.length_map]; omega), rd_mkS l i hil, e4, if_neg c1, e5, if_pos c2]) (Ev.now _)
      · rw [decide_eq_false (show ¬ 100 < l[i].n.length by omega), Bool.false_or]
        exact Ev.step (f := fun k => merkhetlaw04_Great.l0 k (l.map mkS) (l.length : Int) ((i + 1 : Nat) : Int)) (fun k => by rw [merkhetlaw04_Great.l0, if_pos (by omega), if_pos (by omega), if_pos (by rw [List.length_map]; omega), rd_mkS l i hil, e4, if_neg c1, e5, if_neg c2, e]) (ih (i + 1) (by omega))
theorem great_ev (l : List PS) : Ev (fun k => merkhetlaw04_Great.f k (l.map mkS)) (greatP l) := by
  unfold greatP
  by_cases h : (l.length : Int) > 60
  · rw [decide_eq_true (show 60 < l.length by omega), Bool.true_or]
    exact Ev.congr (f := fun _ => some true) (fun k => by rw [merkhetlaw04_Great.f, List.length_map, if_pos h]) (Ev.now _)
  · rw [decide_eq_false (show ¬ 60 < l.length by omega), Bool.false_or]
    have := great_l0 l (by omega) l.length 0 (by omega)
    rw [List.drop_zero] at this
    exact Ev.congr (f := fun k => merkhetlaw04_Great.l0 k (l.map mkS) (l.length : Int) ((0 : Nat) : Int)) (fun k => by rw [merkhetlaw04_Great.f, List.length_map, if_neg h]; rfl) this
theorem great_small {l : List PS} (h : greatP l = false) : l.length ≤ 60 ∧ ∀ p ∈ l, p.h.length ≤ 100 ∧ p.n.length ≤ 100 := by
  unfold greatP at h
  rw [Bool.or_eq_false_iff] at h
  refine ⟨by have := h.1; simp at this; exact this, fun p hp => ?_⟩
  have h2 := List.any_eq_false.1 h.2 p hp
  simp at h2
  exact h2
end Go.Proofs.Ytdpodjgggicaoaa.CW
