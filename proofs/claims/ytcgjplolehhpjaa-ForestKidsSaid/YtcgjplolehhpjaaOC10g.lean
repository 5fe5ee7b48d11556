/- Layer 10's Right, the document's. -/
import Derived.Test.YtcgjplolehhpjaaOx3
import Derived.Test.YtcgjplolehhpjaaOC10b
import Derived.Test.YtcgjplolehhpjaaH15
set_option linter.unusedVariables false
namespace Go.Proofs.Ytcgjplolehhpjaa.O
open Go.RowKit Go.Proofs.Ytcgjplolehhpjaa.H Go.Proofs.YtcgjplolehhpjaaW.PrintWords Go.Proofs.YtcgjplolehhpjaaW.PrintLast Go.Proofs.YtcgjplolehhpjaaW.PrintMore
open Classical in
theorem refRight_l1 {p : List Int} (hp : okP p) (hn : p.length ≤ 1000000) : ∀ (d i : Nat), p.length - i = d → i ≤ p.length → (∀ j : Nat, j < i → up p (p.length + 1) (j : Int) < 0) → Ev (fun k => merkhetref10_Right.l1 k p (i : Int)) (decide (∀ a, a < (p.length : Int) → ¬ cyc p a)) := by
  intro d
  induction d with
  | zero =>
    intro i hd hi hall
    rw [decide_eq_true (p := ∀ a, a < (p.length : Int) → ¬ cyc p a) (fun a ha hc => by
      have h0 := hc.1
      have h1 := hall a.toNat (by omega)
      rw [Int.toNat_of_nonneg h0] at h1
      have := cyc_pos hc (p.length + 1)
      omega)]
    exact Ev.step_ (f := fun _ => some true) (fun k => by rw [merkhetref10_Right.l1, if_neg (by omega)]) (Ev.now _)
  | succ d ih =>
    intro i hd hi hall
    have hw : wrap64 ((p.length : Int) + 1) = ((p.length + 1 : Nat) : Int) := by unfold wrap64; omega
    refine Ev.step_ (f := fun k => (merkhetref10_up.f k p (i : Int) ((p.length + 1 : Nat) : Int)).bind fun t => if t ≥ 0 then some false else merkhetref10_Right.l1 k p (wrap64 ((i : Int) + 1))) (fun k => by rw [merkhetref10_Right.l1, if_pos (by omega), hw]) ?_
    refine Ev.bind (up_ev hp (p.length + 1) (by omega) (i : Int) (by omega) (by omega)) ?_
    by_cases c : 0 ≤ up p (p.length + 1) (i : Int)
    · rw [decide_eq_false (p := ∀ a, a < (p.length : Int) → ¬ cyc p a) (fun h => by
        have h1 := up_ends_lt hp h (a := (i : Int)) (by omega)
        have h2 := up_pos_le (p := p) (a := (i : Int)) (i := p.length) (j := p.length + 1) (by omega) c
        omega)]
      exact Ev.congr (f := fun _ => some false) (fun k => by rw [if_pos c]) (Ev.now _)
    · refine Ev.congr (f := fun k => merkhetref10_Right.l1 k p ((i + 1 : Nat) : Int)) (fun k => by rw [if_neg c, w64s i (by omega)]) ?_
      exact ih (i + 1) (by omega) (by omega) (fun j hj => by
        rcases Nat.lt_or_ge j i with h | h
        · exact hall j h
        · have h0 : j = i := by omega
          rw [h0]; omega)
open Classical in
theorem refRight_l0 {p : List Int} (hn : p.length ≤ 1000000) : ∀ (d i : Nat), p.length - i = d → i ≤ p.length → (∀ j, j < i → -1 ≤ p.getD j 0 ∧ p.getD j 0 < (p.length : Int)) → Ev (fun k => merkhetref10_Right.l0 k p (i : Int)) (decide (okP p ∧ ∀ a, a < (p.length : Int) → ¬ cyc p a)) := by
  intro d
  induction d with
  | zero =>
    intro i hd hi hall
    have hp : okP p := okB_iff.1 (okB_true (fun j hj => hall j (by omega)))
    have h_ := refRight_l1 hp hn p.length 0 rfl (Nat.zero_le _) (fun j hj => absurd hj (Nat.not_lt_zero _))
    rw [show decide (okP p ∧ ∀ a, a < (p.length : Int) → ¬ cyc p a) = decide (∀ a, a < (p.length : Int) → ¬ cyc p a) by rw [decide_eq_decide]; exact ⟨fun h => h.2, fun h => ⟨hp, h⟩⟩]
    exact Ev.step_ (fun k => by rw [merkhetref10_Right.l0, if_neg (by omega)]; rfl) h_
  | succ d ih =>
    intro i hd hi hall
    have hlt : i < p.length := by omega
    by_cases c : -1 ≤ p.getD i 0 ∧ p.getD i 0 < (p.length : Int)
    · refine Ev.step_ (fun k => ?_) (ih (i + 1) (by omega) (by omega) (fun j hj => by
        rcases Nat.lt_or_ge j i with h | h
        · exact hall j h
        · have h0 : j = i := by omega
          rw [h0]; exact c))
      rw [merkhetref10_Right.l0, if_pos (by omega), if_pos (by omega), rdn, if_neg (by omega), if_neg (by omega), w64s i (by omega)]
    · rw [decide_eq_false (fun h => by
        have := okB_false hlt c
        rw [okB_iff.2 h.1] at this
        cases this)]
      by_cases c1 : p.getD i 0 < -1
      · exact Ev.step_ (f := fun _ => some false) (fun k => by rw [merkhetref10_Right.l0, if_pos (by omega), if_pos (by omega), rdn, if_pos c1]) (Ev.now _)
      · exact Ev.step_ (f := fun _ => some false) (fun k => by rw [merkhetref10_Right.l0, if_pos (by omega), if_pos (by omega), rdn, if_neg c1, if_pos (by omega)]) (Ev.now _)
open Classical in
theorem refRight_ev (p : List Int) (hn : p.length ≤ 1000000) : Ev (fun k => merkhetref10_Right.f k p) (decide (okP p ∧ ∀ a, a < (p.length : Int) → ¬ cyc p a)) :=
  refRight_l0 hn p.length 0 rfl (Nat.zero_le _) (fun j hj => absurd hj (Nat.not_lt_zero _))
end Go.Proofs.Ytcgjplolehhpjaa.O
