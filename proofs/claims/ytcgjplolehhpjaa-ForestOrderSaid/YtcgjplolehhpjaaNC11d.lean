/- Layer 11's depth, the program's. -/
import Derived.Test.YtcgjplolehhpjaaNx1
import Derived.Test.YtcgjplolehhpjaaNC11s
set_option linter.unusedVariables false
namespace Go.Proofs.Ytcgjplolehhpjaa.N
open Go.RowKit Go.Proofs.Ytcgjplolehhpjaa.H Go.Proofs.YtcgjplolehhpjaaW.PrintWords Go.Proofs.YtcgjplolehhpjaaW.PrintLast Go.Proofs.YtcgjplolehhpjaaW.PrintMore
/-- How deep the deepest one stands. -/
def deepest (l : List S34) (m : Int) : Int := l.foldl (fun m x => mx m x.f1) m
theorem depth_l0 (l : List S34) (hn : l.length ≤ 1000000) : ∀ (d i : Nat) (m : Int), l.length - i = d → i ≤ l.length → Ev (fun k => forest_Depth.l0 k m l (l.length : Int) (i : Int)) (deepest (l.drop i) m) := by
  intro d
  induction d with
  | zero =>
    intro i m hd hi
    rw [List.drop_of_length_le (by omega)]
    exact Ev.step (f := fun _ => some m) (fun k => by rw [forest_Depth.l0, if_neg (by omega)]) (Ev.now _)
  | succ d ih =>
    intro i m hd hi
    have hlt : i < l.length := by omega
    rw [List.drop_eq_getElem_cons hlt]
    have e : rd_T34 l (i : Int) = l[i] := by rw [rdI, List.getD_eq_getElem?_getD, List.getElem?_eq_getElem hlt]; rfl
    exact Ev.step (fun k => by rw [forest_Depth.l0, if_pos (by omega), if_pos (by omega), if_pos (by omega), e, w64k i (by omega)]) (ih (i + 1) (mx m l[i].f1) (by omega) (by omega))
theorem forestDepth_ev (p : List Int) (hl : p.length ≤ 1000000) : Ev (fun k => forest_Depth.f k p) (deepest (itemsP p) (-1)) := by
  unfold forest_Depth.f
  refine Ev.bind (forestRow_ev p hl) ?_
  exact depth_l0 _ (Nat.le_trans (itemsP_length p hl) hl) _ 0 (-1) rfl (Nat.zero_le _)
theorem deepest_ge : ∀ (l : List S34) (m : Int), m ≤ deepest l m
  | [], m => Int.le_refl m
  | x :: l, m => by
    have := deepest_ge l (mx m x.f1)
    have h2 : m ≤ mx m x.f1 := by unfold mx; split <;> omega
    show m ≤ deepest l (mx m x.f1)
    omega
theorem deepest_some {x : S34} (l : List S34) (h : 0 ≤ x.f1) : deepest (x :: l) (-1) ≠ -1 := by
  have := deepest_ge l (mx (-1) x.f1)
  have h2 : 0 ≤ mx (-1) x.f1 := by unfold mx; split <;> omega
  show deepest l (mx (-1) x.f1) ≠ -1
  omega
end Go.Proofs.Ytcgjplolehhpjaa.N
