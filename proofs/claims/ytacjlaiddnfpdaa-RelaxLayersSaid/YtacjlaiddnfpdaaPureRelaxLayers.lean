/- Whether any edges may be, their layers, and by which edges, are the document's: both are the plain ones. No conditions. -/
import Derived.Test.YtacjlaiddnfpdaaLx5
import Derived.Test.YtacjlaiddnfpdaaLC15b
import Derived.Test.YtacjlaiddnfpdaaLC15c
import Derived.Test.YtacjlaiddnfpdaaLC15f
import Derived.Test.YtacjlaiddnfpdaaLC10a
namespace Go.Proofs.Ytacjlaiddnfpdaa.Pure
open Go.RowKit Go.Proofs.Ytacjlaiddnfpdaa.L Go.Proofs.Ytacjlaiddnfpdaa.H Go.Proofs.YtacjlaiddnfpdaaW.PrintWords Go.Proofs.YtacjlaiddnfpdaaW.PrintLast

theorem layers_law_l0 (n : Int) (l : List S48) (X Y : List (List Int)) (hl : l.length ≤ 100) (hXY : Y.length = X.length) (hn : X.length < 1000) (hX : ∀ i, (X.getD i []).length < 1000) (hY : ∀ i, (Y.getD i []).length < 1000) : ∀ (d i : Nat), X.length - i = d → i ≤ X.length → Ev (fun k => merkhetlaw15_RelaxLayers.l0 k n l X Y X Y (X.length : Int) (i : Int)) true := by
  intro d
  induction d with
  | zero =>
    intro i hd hi
    refine ev_step (fun k => by rw [merkhetlaw15_RelaxLayers.l0, if_neg (by omega)]) ?_
    refine Ev.bind (solve_ev n l (by omega)) (Ev.bind (refsolve_ev n l (by omega)) (Ev.bind law15_fixed_ev ?_))
    refine Ev.congr (fun k => by rw [if_pos rfl]) ?_
    have hlen : (solveP n l).1.length < 1000 := by
      rcases solveP_cases n l with ⟨_, he⟩ | ⟨hm, hc, he⟩
      · rw [he]; decide
      · rw [he]; have := hm.2.n32; show (rowF _ _).length < 1000; rw [rowF_length]; omega
    refine Ev.bind (same15_ev _ _ (by omega)) ?_
    rw [decide_eq_true rfl]
    refine Ev.congr (f := fun _ => some true) (fun k => by rw [if_pos rfl, beq_self_eq_true]) (Ev.now _)
  | succ d ih =>
    intro i hd hi
    have hx := hX i
    have hy := hY i
    refine ev_step (f := fun k => (merkhetref15_Same.f k (X.getD i []) (X.getD i [])).bind fun t => if t = true then (if (i : Int) < (Y.length : Int) then (if (i : Int) < (Y.length : Int) then (merkhetref10_Same.f k (Y.getD i []) (Y.getD i [])).bind (fun t2 => if t2 = true then merkhetlaw15_RelaxLayers.l0 k n l X Y X Y (X.length : Int) ((i + 1 : Nat) : Int) else some false) else none) else none) else some false) (fun k => ?_) ?_
    · rw [merkhetlaw15_RelaxLayers.l0, if_pos (by omega), if_pos (by omega), if_pos (by omega), if_pos (by omega), w64t i (by omega)]
      rfl
    · refine Ev.bind (same15_ev _ _ (by omega)) ?_
      rw [decide_eq_true rfl]
      refine Ev.congr (fun k => by rw [if_pos rfl, if_pos (by omega), if_pos (by omega)]) ?_
      refine Ev.bind (same_ev _ _ (by omega)) ?_
      rw [decide_eq_true rfl]
      exact Ev.congr (fun k => by rw [if_pos rfl]) (ih (i + 1) (by omega) (by omega))
open Classical in
theorem RelaxLayers : merkhetlaw15_RelaxLayers.Pure := by
  intro n l hn hl hw
  refine Ev.rounds (g := fun k => merkhetlaw15_RelaxLayers.f k n l) ?_
  unfold merkhetlaw15_RelaxLayers.f
  by_cases c : (l.length : Int) > 100
  · refine Ev.congr (fun k => by rw [if_pos c]) ?_
    exact Ev.bind law15_fixed_ev (Ev.now _)
  · refine Ev.congr (fun k => by rw [if_neg c]) ?_
    refine Ev.bind (layers_ev n l (by omega)) (Ev.bind (reflayers_ev n l (by omega)) ?_)
    refine Ev.bind (show Ev (fun _ => relax_May.f n l) (decide (mayL n l)) from ⟨0, fun _ _ => relaxMay_eq n l⟩) ?_
    refine Ev.bind (refMay15_ev n l (by omega)) ?_
    refine Ev.congr (fun k => by rw [bne_self_eq_false, if_neg (by decide), if_pos rfl, bne_self_eq_false]) ?_
    refine ev_step (fun k => by rw [merkhetlaw15_RelaxLayers.j0, if_neg (by decide)]) ?_
    by_cases hm : mayL n l
    · have h32 := hm.2.n32
      rw [if_pos hm]
      refine layers_law_l0 n l _ _ (by omega) (by rw [rowsF_length, rowsF_length]) (by rw [rowsF_length]; omega) ?_ ?_ _ 0 rfl (Nat.zero_le _)
      · intro i
        by_cases h : i < n.toNat + 1
        · rw [rowsF_getD _ _ _ _ h, rowF_length]; omega
        · rw [List.getD_eq_getElem?_getD, List.getElem?_eq_none (by rw [rowsF_length]; omega)]; decide
      · intro i
        by_cases h : i < n.toNat + 1
        · rw [rowsF_getD _ _ _ _ h, rowF_length]; omega
        · rw [List.getD_eq_getElem?_getD, List.getElem?_eq_none (by rw [rowsF_length]; omega)]; decide
    · rw [if_neg hm]
      exact layers_law_l0 n l [] [] (by omega) rfl (by decide) (fun i => by simp) (fun i => by simp) 0 0 rfl (Nat.zero_le _)
end Go.Proofs.Ytacjlaiddnfpdaa.Pure
