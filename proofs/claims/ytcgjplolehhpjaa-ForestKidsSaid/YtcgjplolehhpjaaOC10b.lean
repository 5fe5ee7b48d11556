/- Layer 10's walk up, the document's. -/
import Derived.Test.YtcgjplolehhpjaaOx3
import Derived.Test.YtcgjplolehhpjaaH17
import Derived.Test.YtcgjplolehhpjaaH12
set_option linter.unusedVariables false
namespace Go.Proofs.Ytcgjplolehhpjaa.O
open Go.RowKit Go.Proofs.Ytcgjplolehhpjaa.H Go.Proofs.YtcgjplolehhpjaaW.PrintWords Go.Proofs.YtcgjplolehhpjaaW.PrintLast Go.Proofs.YtcgjplolehhpjaaW.PrintMore
theorem up_l0 {p : List Int} (hp : okP p) (m : Nat) (hm : m < 9000000000000000000) : ∀ (d i : Nat) (a : Int), m - i = d → i ≤ m → -1 ≤ a → a < (p.length : Int) → Ev (fun k => merkhetref10_up.l0 k p a (m : Int) (i : Int)) (up p (m - i) a) := by
  intro d
  induction d with
  | zero =>
    intro i a hd hi h0 h1
    rw [hd]
    exact Ev.step_ (f := fun _ => some a) (fun k => by rw [merkhetref10_up.l0, if_neg (by omega)]) (Ev.now _)
  | succ d ih =>
    intro i a hd hi h0 h1
    by_cases c : 0 ≤ a
    · have hx := okP_nx hp h0 h1
      have h_ := ih (i + 1) (nx p a) (by omega) (by omega) hx.1 hx.2
      rw [show m - i = (m - (i + 1)) + 1 by omega]
      refine Ev.step_ (f := fun k => merkhetref10_up.l0 k p (nx p a) (m : Int) ((i + 1 : Nat) : Int)) (fun k => ?_) h_
      rw [merkhetref10_up.l0, if_pos (by omega), if_pos c, if_pos c, if_pos h1, w64s i (by omega)]
      rw [show nx p a = rd p a by unfold nx rd; rw [if_pos c]]
    · rw [up_neg _ _ _ (by omega)]
      exact Ev.step_ (f := fun _ => some a) (fun k => by rw [merkhetref10_up.l0, if_pos (by omega), if_neg (by omega)]) (Ev.now _)
theorem up_ev {p : List Int} (hp : okP p) (m : Nat) (hm : m < 9000000000000000000) (a : Int) (h0 : -1 ≤ a) (h1 : a < (p.length : Int)) : Ev (fun k => merkhetref10_up.f k p a (m : Int)) (up p m a) := up_l0 hp m hm m 0 a rfl (Nat.zero_le _) h0 h1
end Go.Proofs.Ytcgjplolehhpjaa.O
