/- Layer 11: comparisons, depths, the kids of any place. -/
import Derived.Test.YtcgjplolehhpjaaOC11a
import Derived.Test.YtcgjplolehhpjaaOx2
import Derived.Test.YtcgjplolehhpjaaOx4
import Derived.Test.YtcgjplolehhpjaaOx5
set_option linter.unusedVariables false
namespace Go.Proofs.Ytcgjplolehhpjaa.O
open Go.RowKit Go.Proofs.Ytcgjplolehhpjaa.H Go.Proofs.YtcgjplolehhpjaaW.PrintWords Go.Proofs.YtcgjplolehhpjaaW.PrintLast Go.Proofs.YtcgjplolehhpjaaW.PrintMore
theorem same11_l0 (a : List S34) (hn : a.length ≤ 1000000) : ∀ (d i : Nat), a.length - i = d → i ≤ a.length → Ev (fun k => merkhetref11_Same.l0 k a a (i : Int)) true := by
  intro d
  induction d with
  | zero =>
    intro i hd hi
    exact Ev.step (f := fun _ => some true) (fun k => by rw [merkhetref11_Same.l0, if_neg (by omega)]) (Ev.now _)
  | succ d ih =>
    intro i hd hi
    refine Ev.step (fun k => ?_) (ih (i + 1) (by omega) (by omega))
    rw [merkhetref11_Same.l0, if_pos (by omega), if_pos (by omega), if_pos (by omega), beq_self_eq_true, beq_self_eq_true, beq_self_eq_true, if_neg (by decide), w64k i (by omega)]
theorem same11_refl (a : List S34) (hn : a.length ≤ 1000000) : Ev (fun k => merkhetref11_Same.f k a a) true := by
  unfold merkhetref11_Same.f
  exact Ev.congr (fun k => by rw [if_pos rfl]; rfl) (same11_l0 a hn a.length 0 rfl (Nat.zero_le _))
/-- How deep the deepest one stands. -/
def deepest (l : List S34) (m : Int) : Int := l.foldl (fun m x => mx m x.f1) m
theorem depth_l0 (l : List S34) (hn : l.length ≤ 1000000) : ∀ (d i : Nat) (m : Int), l.length - i = d → i ≤ l.length → Ev (fun k => forest_Depth.l0 k m l (l.length : Int) (i : Int)) (deepest (l.drop i) m) := by
  intro d
  induction d with
  | zero =>
    intro i m hd hi
    rw [List.drop_of_length_le (by omega)]
    exact Ev.step (f := fun _ => some m) (fun k => by rw [forest_Depth.l0, if_neg (by omega)]) (Ev.now _)
  | succ d ih =>
    intro i m hd hi
    have hlt : i < l.length := by omega
    rw [List.drop_eq_getElem_cons hlt]
    have e : rd_T34 l (i : Int) = l[i] := by rw [rdI, List.getD_eq_getElem?_getD, List.getElem?_eq_getElem hlt]; rfl
    exact Ev.step (fun k => by rw [forest_Depth.l0, if_pos (by omega), if_pos (by omega), if_pos (by omega), e, w64k i (by omega)]) (ih (i + 1) (mx m l[i].f1) (by omega) (by omega))
theorem refDepth_l0 (l : List S34) (hn : l.length ≤ 1000000) : ∀ (d i : Nat) (m : Int), l.length - i = d → i ≤ l.length → Ev (fun k => merkhetref11_Depth.l0 k l m (i : Int)) (deepest (l.drop i) m) := by
  intro d
  induction d with
  | zero =>
    intro i m hd hi
    rw [List.drop_of_length_le (by omega)]
    exact Ev.step (f := fun _ => some m) (fun k => by rw [merkhetref11_Depth.l0, if_neg (by omega)]) (Ev.now _)
  | succ d ih =>
    intro i m hd hi
    have hlt : i < l.length := by omega
    rw [List.drop_eq_getElem_cons hlt]
    have e : rd_T34 l (i : Int) = l[i] := by rw [rdI, List.getD_eq_getElem?_getD, List.getElem?_eq_getElem hlt]; rfl
    by_cases c : l[i].f1 > m
    · have hm : mx m l[i].f1 = l[i].f1 := by unfold mx; omega
      have h_ := ih (i + 1) (mx m l[i].f1) (by omega) (by omega)
      rw [hm] at h_
      refine Ev.step (fun k => by rw [merkhetref11_Depth.l0, if_pos (by omega), if_pos (by omega), e, if_pos c, w64k i (by omega)]) (ev_eqk h_ ?_)
      show _ = deepest (l.drop (i + 1)) (mx m l[i].f1)
      rw [hm]
    · have hm : mx m l[i].f1 = m := by unfold mx; omega
      have h_ := ih (i + 1) (mx m l[i].f1) (by omega) (by omega)
      rw [hm] at h_
      refine Ev.step (fun k => by rw [merkhetref11_Depth.l0, if_pos (by omega), if_pos (by omega), e, if_neg c, w64k i (by omega)]) (ev_eqk h_ ?_)
      show _ = deepest (l.drop (i + 1)) (mx m l[i].f1)
      rw [hm]
theorem forestDepth_ev (p : List Int) (hl : p.length ≤ 1000000) : Ev (fun k => forest_Depth.f k p) (deepest (itemsP p) (-1)) := by
  unfold forest_Depth.f
  refine Ev.bind (forestRow_ev p hl) ?_
  exact depth_l0 _ (Nat.le_trans (itemsP_length p hl) hl) _ 0 (-1) rfl (Nat.zero_le _)
theorem refDepth_ev (p : List Int) (hl : p.length ≤ 60) : Ev (fun k => merkhetref11_Depth.f k p) (deepest (itemsP p) (-1)) := by
  unfold merkhetref11_Depth.f
  refine Ev.bind (refRow_ev p hl) ?_
  exact refDepth_l0 _ (Nat.le_trans (itemsP_length p (by omega)) (by omega)) _ 0 (-1) rfl (Nat.zero_le _)
theorem forestKids_l0 (p : List Int) (a : Int) (hl : p.length ≤ 1000000) : ∀ (d i : Nat), p.length - i = d → i ≤ p.length → Ev (fun k => forest_Kids.l0 k a (kidsI p i a) p (p.length : Int) (i : Int)) (kidsI p p.length a) := by
  intro d
  induction d with
  | zero =>
    intro i hd hi
    obtain rfl : i = p.length := by omega
    exact Ev.step (f := fun _ => some _) (fun k => by rw [forest_Kids.l0, if_neg (by omega)]) (Ev.now _)
  | succ d ih =>
    intro i hd hi
    have hk := kidsI_length_le p i a
    have hs := kidsI_succ p i a
    have h_ := ih (i + 1) (by omega) (by omega)
    by_cases c : p.getD i 0 = a
    · rw [if_pos c] at hs
      rw [hs] at h_
      exact Ev.step (fun k => by rw [forest_Kids.l0, if_pos (by omega), if_pos (by omega), if_pos (by omega), rdk, if_pos c, if_pos (by omega), w64k i (by omega)]) h_
    · rw [if_neg c] at hs
      rw [hs] at h_
      exact Ev.step (fun k => by rw [forest_Kids.l0, if_pos (by omega), if_pos (by omega), if_pos (by omega), rdk, if_neg c, w64k i (by omega)]) h_
theorem forestKids_ev (p : List Int) (a : Int) (hl : p.length ≤ 1000000) : Ev (fun k => forest_Kids.f k p a) (kidsI p p.length a) := by
  unfold forest_Kids.f
  exact forestKids_l0 p a hl p.length 0 rfl (Nat.zero_le _)
end Go.Proofs.Ytcgjplolehhpjaa.O
