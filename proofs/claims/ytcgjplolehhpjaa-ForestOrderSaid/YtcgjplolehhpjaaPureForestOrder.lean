/- The program's rows stand in order (of those of one parent the lesser place first), they are all there if and only if the parents may be, and the depth is -1 if and only if nothing stands in the row: for any parents (what is too great asks the example alone). -/
import Derived.Test.YtcgjplolehhpjaaNx2
import Derived.Test.YtcgjplolehhpjaaNC11d
import Derived.Test.YtcgjplolehhpjaaNC11f
set_option linter.unusedVariables false
namespace Go.Proofs.Ytcgjplolehhpjaa.Pure
open Go.RowKit Go.Proofs.Ytcgjplolehhpjaa.N Go.Proofs.YtcgjplolehhpjaaW.PrintWords Go.Proofs.YtcgjplolehhpjaaW.PrintLast Go.Proofs.Ytcgjplolehhpjaa.H

theorem fix_ev : Ev (fun k => merkhetlaw11_ForestOrder_fix k) true := by
  unfold merkhetlaw11_ForestOrder_fix
  exact Ev.bind law11_fixed_ev (Ev.congr (f := fun _ => some true) (fun k => by rw [if_pos rfl]) (Ev.now _))
theorem rd_rowOf (p : List Int) (i : Nat) (hi : i < (rowOf p).length) : rd_T34 ((rowOf p).map forest_Row_it) (i : Int) = forest_Row_it (rowOf p)[i] := by
  rw [rdI, List.getD_eq_getElem?_getD, List.getElem?_map, List.getElem?_eq_getElem hi]; rfl
open Classical in
theorem ForestOrder : merkhetlaw11_ForestOrder.Pure := by
  intro p _ _ _
  apply Ev.rounds
  unfold merkhetlaw11_ForestOrder.f
  by_cases c : (p.length : Int) > 60
  · exact Ev.congr (fun k => if_pos c) fix_ev
  refine Ev.congr (fun k => if_neg c) ?_
  have hl : p.length ≤ 1000000 := by omega
  refine Ev.bind (forestRow_ev p hl) ?_
  have hlen := itemsP_length p hl
  have hord : merkhetlaw11_ForestOrder_ord (itemsP p) := by
    unfold itemsP
    by_cases h : forestP p
    · rw [if_pos h]
      have ha := rowK_apart h.2 _ (-1) 0 _ (rowOf_eq h hl)
      rw [List.pairwise_iff_getElem] at ha
      intro i hi j hj ⟨h1, h2⟩
      rw [List.length_map] at hi
      rw [rd_rowOf p i hi, rd_rowOf p j (by omega)] at h1 h2
      have := (ha j i (by omega) hi hj).2 h1
      have h3 : ((rowOf p)[i]).1 ≤ ((rowOf p)[j]'(by omega)).1 := h2
      omega
    · rw [if_neg h]
      intro i hi
      exact absurd hi (by simp)
  refine Ev.congr (fun k => if_pos ⟨hord, by omega⟩) (Ev.bind fix_ev (Ev.bind (parentRight_ev p hl) ?_))
  have hb : decide (((itemsP p).length : Int) = (p.length : Int)) = decide (okP p ∧ ∀ a, a < (p.length : Int) → ¬ cyc p a) := by
    rw [decide_eq_decide]
    by_cases h : forestP p
    · refine ⟨fun _ => h, fun _ => ?_⟩
      unfold itemsP
      rw [if_pos h, List.length_map, row_length h.1 h.2 (rowOf_eq h hl)]
    · refine ⟨fun he => ?_, fun h' => absurd h' h⟩
      unfold itemsP at he
      rw [if_neg h] at he
      have hp : p = [] := by
        cases p with
        | nil => rfl
        | cons x r => simp at he; omega
      subst hp
      refine ⟨fun x hx => by simp at hx, fun a ha hc => ?_⟩
      have := hc.1
      simp at ha
      omega
  refine Ev.congr (fun k => if_pos hb) (Ev.bind (forestDepth_ev p hl) ?_)
  refine Ev.congr (f := fun _ => some true) (fun k => if_pos ?_) (Ev.now _)
  rw [decide_eq_decide]
  cases he : itemsP p with
  | nil => exact ⟨fun _ => rfl, fun _ => rfl⟩
  | cons x r =>
    have hx : 0 ≤ x.f1 := by
      have hm : x ∈ itemsP p := by rw [he]; simp
      unfold itemsP at hm
      by_cases h : forestP p
      · rw [if_pos h] at hm
        obtain ⟨y, hy, rfl⟩ := List.mem_map.1 hm
        have := (rowK_el _ (-1) 0 _ (rowOf_eq h hl) y hy).2.2.2.1
        exact this
      · rw [if_neg h] at hm
        simp at hm
    refine ⟨fun h => ?_, fun h => absurd h (deepest_some r hx)⟩
    rw [List.length_cons] at h
    omega
end Go.Proofs.Ytcgjplolehhpjaa.Pure
