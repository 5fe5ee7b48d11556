/- What is told meets all edges, and none of it is above 0: the plain law of the last layer. No conditions. -/
import Derived.Test.YtacjlaiddnfpdaaLx6
import Derived.Test.YtacjlaiddnfpdaaLC15b
import Derived.Test.YtacjlaiddnfpdaaLC15f
import Derived.Test.YtacjlaiddnfpdaaLC14
namespace Go.Proofs.Ytacjlaiddnfpdaa.Pure
open Go.RowKit Go.Proofs.Ytacjlaiddnfpdaa.L Go.Proofs.Ytacjlaiddnfpdaa.H Go.Proofs.YtacjlaiddnfpdaaW.PrintWords Go.Proofs.YtacjlaiddnfpdaaW.PrintLast

theorem holds_l0 (n : Int) (l : List S48) (x : List Int) (hx : ∀ v ∈ x, v ≤ 0 ∧ -288230376151711744 ≤ v) (hlen : (x.length : Int) = n) (hn : x.length < 1000) (ha : Ev (fun k => merkhetref14_All.f k l x) true) : ∀ (d i : Nat), x.length - i = d → i ≤ x.length → Ev (fun k => merkhetlaw15_RelaxHolds.l0 k n l x x (x.length : Int) (i : Int)) true := by
  intro d
  induction d with
  | zero =>
    intro i hd hi
    refine ev_step (fun k => by rw [merkhetlaw15_RelaxHolds.l0, if_neg (by omega)]) ?_
    refine Ev.bind law15_fixed_ev (Ev.congr (fun k => by rw [if_pos rfl, if_pos hlen]) ?_)
    exact Ev.bind ha (Ev.now _)
  | succ d ih =>
    intro i hd hi
    have hlt : i < x.length := by omega
    have hv := hx x[i] (List.getElem_mem hlt)
    have hr : rd x (i : Int) = x[i] := by rw [rdt, List.getD_eq_getElem?_getD, List.getElem?_eq_getElem hlt]; rfl
    refine ev_step (fun k => ?_) (ih (i + 1) (by omega) (by omega))
    rw [merkhetlaw15_RelaxHolds.l0, if_pos (by omega), if_pos (by omega), if_pos (by omega), hr, if_neg (by omega), if_neg (by omega), w64t i (by omega)]
theorem row_bounds {n : Int} {l : List S48} (hm : mayL n l) : ∀ v ∈ rowF n.toNat (L (eds l) n.toNat), v ≤ 0 ∧ -288230376151711744 ≤ v := by
  intro v hv
  obtain ⟨h, _, rfl⟩ := List.mem_map.1 hv
  have h1 := L_low hm.2 n.toNat (h : Int)
  have h2 := L_nonpos (eds l) n.toNat (h : Int)
  have h3 := hm.2.n32
  omega
theorem row_holds {n : Int} {l : List S48} (hm : mayL n l) (hc : ∀ h, 0 ≤ h → h < n → L (eds l) n.toNat h = L (eds l) (n.toNat - 1) h) : ∀ s ∈ l, holdsS (rowF n.toNat (L (eds l) n.toNat)) s := by
  intro s hs
  have h1 := mayL_at hm hs
  have h0 := hm.1
  have h2 := L_meets hm.2 (fun h a b => hc h a (by omega)) (ed s) (mem_eds hs)
  unfold holdsS
  rw [rowF_length, rowF_rd _ _ _ (by omega) (by omega), rowF_rd _ _ _ (by omega) (by omega)]
  exact ⟨h1.1, by omega, h1.2.2.1, by omega, h2⟩
open Classical in
theorem RelaxHolds : merkhetlaw15_RelaxHolds.Pure := by
  intro n l hn hl hw
  refine Ev.rounds (g := fun k => merkhetlaw15_RelaxHolds.f k n l) ?_
  unfold merkhetlaw15_RelaxHolds.f
  by_cases c : (l.length : Int) > 100
  · refine Ev.congr (fun k => by rw [if_pos c]) ?_
    exact Ev.bind law15_fixed_ev (Ev.now _)
  · refine Ev.congr (fun k => by rw [if_neg c]) ?_
    refine Ev.bind (solve_ev n l (by omega)) ?_
    rcases solveP_cases n l with ⟨_, he⟩ | ⟨hm, hc, he⟩
    · rw [he]
      refine Ev.congr (fun k => by rw [if_neg (by decide)]) ?_
      exact Ev.bind law15_fixed_ev (Ev.now _)
    · rw [he]
      have h0 := hm.1
      have h32 := hm.2.n32
      refine Ev.congr (fun k => by rw [if_pos rfl]) ?_
      refine holds_l0 n l _ (row_bounds hm) (by rw [rowF_length]; omega) (by rw [rowF_length]; omega) ?_ _ 0 rfl (Nat.zero_le _)
      refine ev_eq (all_ev l _ (fun v hv => by have := row_bounds hm v hv; unfold i64R; omega) (fun s hs => wf_i64R (hw s hs).2.2.1) (by omega)) ?_
      exact decide_eq_true (row_holds hm hc)
end Go.Proofs.Ytacjlaiddnfpdaa.Pure
