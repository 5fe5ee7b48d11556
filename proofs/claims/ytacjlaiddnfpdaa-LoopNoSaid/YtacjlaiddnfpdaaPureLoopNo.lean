/- Where there is a chain no whole numbers meet all its edges; where there is none, what is told does: for up to 100 edges and 40 numbers from -2^57 to 2^57 (beyond, the law asks its example alone). No conditions. -/
import Derived.Test.YtacjlaiddnfpdaaLCx7
import Derived.Test.YtacjlaiddnfpdaaLCC16n
set_option linter.unusedVariables false
namespace Go.Proofs.Ytacjlaiddnfpdaa.Pure
open Go.RowKit Go.Proofs.Ytacjlaiddnfpdaa.LC Go.Proofs.Ytacjlaiddnfpdaa.H Go.Proofs.YtacjlaiddnfpdaaW.PrintWords Go.Proofs.YtacjlaiddnfpdaaW.PrintLast
theorem row_bounds16 {n : Int} {l : List S48} (hm : mayL n l) : ∀ v ∈ rowF n.toNat (L (eds l) n.toNat), v ≤ 0 ∧ -288230376151711744 ≤ v := by
  intro v hv
  obtain ⟨h, _, rfl⟩ := List.mem_map.1 hv
  have h1 := L_low hm.2 n.toNat (h : Int)
  have h2 := L_nonpos (eds l) n.toNat (h : Int)
  have h3 := hm.2.n32
  omega
theorem row_holds16 {n : Int} {l : List S48} (hm : mayL n l) (hc : ∀ h, 0 ≤ h → h < n → L (eds l) n.toNat h = L (eds l) (n.toNat - 1) h) : ∀ s ∈ l, holdsS (rowF n.toNat (L (eds l) n.toNat)) s := by
  intro s hs
  have h1 := mayL_at hm hs
  have h0 := hm.1
  have h2 := L_meets hm.2 (fun h a b => hc h a (by omega)) (ed s) (mem_eds hs)
  unfold holdsS
  rw [rowF_length, rowF_rd _ _ _ (by omega) (by omega), rowF_rd _ _ _ (by omega) (by omega)]
  exact ⟨h1.1, by omega, h1.2.2.1, by omega, h2⟩
open Classical in
theorem no_end (n : Int) (l : List S48) (x : List Int) (hl : l.length ≤ 100) (hw : ∀ s ∈ l, i64R s.f2) (hx : ∀ v ∈ x, i64R v) : Ev (fun k => (loop_Of.f k n l).bind fun t275 => ((merkhetlaw16_fixed.f k).bind fun t278 => (if t278 = true then (if (t275.length : Int) = 0 then (if (t275.length : Int) > 0 then (some true) else (if n < 1 then (some true) else ((merkhetref15_May.f k n l).bind fun t279 => (if t279 = true then ((merkhetlaw16_solved.f k n l).bind fun t280 => ((merkhetref14_All.f k l t280).bind fun t283 => (some t283))) else (some true))))) else ((merkhetref14_All.f k t275 x).bind fun t284 => (if t284 = true then (some false) else (if (t275.length : Int) > 0 then (some true) else (if n < 1 then (some true) else ((merkhetref15_May.f k n l).bind fun t285 => (if t285 = true then ((merkhetlaw16_solved.f k n l).bind fun t286 => ((merkhetref14_All.f k l t286).bind fun t289 => (some t289))) else (some true)))))))) else (some false)))) true := by
  obtain ⟨r, h1, _, h3⟩ := loop_two n l (by omega)
  refine Ev.bind h1 (Ev.bind law16_fixed_ev (Ev.congr (fun k => by rw [if_pos rfl]) ?_))
  rcases h3 with ⟨rfl, h3⟩ | ⟨hm, hnc, h, _⟩
  · refine Ev.congr (fun k => by rw [if_pos (by rfl), if_neg (by decide)]) ?_
    by_cases cn : n < 1
    · exact Ev.congr (f := fun _ => some true) (fun k => by rw [if_pos cn]) (Ev.now _)
    · refine Ev.congr (fun k => by rw [if_neg cn]) (Ev.bind (refMay15_ev n l (by omega)) ?_)
      rcases h3 with hno | ⟨hm, hc⟩
      · exact Ev.congr (f := fun _ => some true) (fun k => by rw [decide_eq_false hno, if_neg Bool.false_ne_true]) (Ev.now _)
      · refine Ev.congr (fun k => by rw [decide_eq_true hm, if_pos rfl]) ?_
        unfold merkhetlaw16_solved.f
        have e : solveP n l = (rowF n.toNat (L (eds l) n.toNat), true) := by unfold solveP; rw [if_pos ⟨hm, hc⟩]
        have hs : Ev (fun k => (merkhetref15_Solve.f k n l).bind fun bt => some bt.1) (rowF n.toNat (L (eds l) n.toNat)) := Ev.bind (ev_eq (refsolve_ev n l (by omega)) e) (Ev.now _)
        refine Ev.bind hs (Ev.bind (ev_eq (all_ev l _ (fun v hv => by have := row_bounds16 hm v hv; unfold i64R; omega) hw (by omega)) (decide_eq_true (row_holds16 hm hc))) (Ev.now _))
  · have hn0 := h.ne
    have hle := h.le
    have h32 := hm.2.n32
    refine Ev.congr (fun k => by rw [if_neg (by omega)]) ?_
    refine Ev.bind (ev_eq (all_ev r x hx (fun s hs => hw s (h.mem s hs)) (by omega)) (decide_eq_false (fun hall => ?_))) ?_
    · have hp := ring_pot (w := fun e : S48 => e.f2) h.rg (fun a => rd x a) (fun e he => (hall e he).2.2.2.2)
      have := h.neg
      omega
    · exact Ev.congr (f := fun _ => some true) (fun k => by rw [if_neg Bool.false_ne_true, if_pos (by omega)]) (Ev.now _)
theorem no_l0 (n : Int) (l : List S48) (x : List Int) (hl : l.length ≤ 100) (hw : ∀ s ∈ l, i64R s.f2) (hx : ∀ v ∈ x, i64R v) (hxl : x.length ≤ 40) : ∀ (d i : Nat), i + d = x.length → Ev (fun k => merkhetlaw16_LoopNo.l0 k n l x x (x.length : Int) (i : Int)) true := by
  intro d
  induction d with
  | zero =>
    intro i hi
    exact ev_step (fun k => by rw [merkhetlaw16_LoopNo.l0, if_neg (by omega)]) (no_end n l x hl hw hx)
  | succ d ih =>
    intro i hi
    by_cases c1 : rd x (i : Int) > 144115188075855872
    · exact ev_step (f := fun k => (merkhetlaw16_fixed.f k).bind fun t => some t) (fun k => by rw [merkhetlaw16_LoopNo.l0, if_pos (by omega), if_pos (by omega), if_pos (by omega), if_pos c1]) (Ev.bind law16_fixed_ev (Ev.now _))
    by_cases c2 : rd x (i : Int) < -144115188075855872
    · exact ev_step (f := fun k => (merkhetlaw16_fixed.f k).bind fun t => some t) (fun k => by rw [merkhetlaw16_LoopNo.l0, if_pos (by omega), if_pos (by omega), if_pos (by omega), if_neg c1, if_pos c2]) (Ev.bind law16_fixed_ev (Ev.now _))
    refine ev_step (fun k => ?_) (ih (i + 1) (by omega))
    rw [merkhetlaw16_LoopNo.l0, if_pos (by omega), if_pos (by omega), if_pos (by omega), if_neg c1, if_neg c2, w64t i (by omega)]
theorem LoopNo : merkhetlaw16_LoopNo.Pure := by
  intro n l x hn hl hw hxl _ hx
  refine Ev.rounds (g := fun k => merkhetlaw16_LoopNo.f k n l x) ?_
  unfold merkhetlaw16_LoopNo.f
  have ht : Ev (fun k => merkhetlaw16_LoopNo.j0 k n l x true) true := ev_step (f := fun k => (merkhetlaw16_fixed.f k).bind fun t => some t) (fun k => by rw [merkhetlaw16_LoopNo.j0, if_pos rfl]) (Ev.bind law16_fixed_ev (Ev.now _))
  by_cases c : (l.length : Int) > 100
  · exact Ev.congr (fun k => by rw [if_pos c]) ht
  by_cases c2 : (x.length : Int) > 40
  · exact Ev.congr (fun k => by rw [if_neg c, decide_eq_true c2]) ht
  refine Ev.congr (fun k => by rw [if_neg c, decide_eq_false c2]) ?_
  refine ev_step (fun k => by rw [merkhetlaw16_LoopNo.j0, if_neg Bool.false_ne_true]) ?_
  exact no_l0 n l x (by omega) (fun s hs => wf_i64R (hw s hs).2.2.1) (fun v hv => wf_i64R (hx v hv)) (by omega) x.length 0 (by omega)
end Go.Proofs.Ytacjlaiddnfpdaa.Pure
