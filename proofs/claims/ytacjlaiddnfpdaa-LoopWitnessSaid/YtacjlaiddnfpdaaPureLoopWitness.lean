/- The chain of edges that may be, but can't be met, is one; else there is none: for up to 100 edges (beyond, the law asks its example alone). No conditions. -/
import Derived.Test.YtacjlaiddnfpdaaLDx7
import Derived.Test.YtacjlaiddnfpdaaLDC16m
set_option linter.unusedVariables false
namespace Go.Proofs.Ytacjlaiddnfpdaa.Pure
open Go.RowKit Go.Proofs.Ytacjlaiddnfpdaa.LD Go.Proofs.Ytacjlaiddnfpdaa.H Go.Proofs.YtacjlaiddnfpdaaW.PrintWords Go.Proofs.YtacjlaiddnfpdaaW.PrintLast
theorem wit_fix : Ev (fun k => merkhetlaw16_LoopWitness_fix k) true := Ev.bind law16_fixed_ev (Ev.congr (f := fun _ => some true) (fun k => if_pos rfl) (Ev.now _))
theorem wit_r (c : List S48) (j : Nat) (hj : j < c.length) : merkhetlaw16_LoopWitness_r c j = c[j] := by
  show c.getD _ _ = _; rw [Int.toNat_natCast, List.getD_eq_getElem?_getD, List.getElem?_eq_getElem hj]; rfl
theorem wit_s {n : Int} {l c : List S48} (hm : mayL n l) (h : isLoop n l c) : ∀ i, i ≤ c.length → merkhetlaw16_LoopWitness_s c i = sumW (fun e : S48 => e.f2) (c.take i)
  | 0, _ => rfl
  | i + 1, hi => by
    have h0 := hm.1
    have h32 := hm.2.n32
    have hcl := h.le
    show wrap64 (merkhetlaw16_LoopWitness_s c i + (merkhetlaw16_LoopWitness_r c i).f2) = _
    rw [wit_s hm h i (by omega), wit_r c i (by omega), sumW_take _ _ _ (show i < c.length by omega)]
    have h1 := sumW_abs (fun e : S48 => e.f2) 4503599627370496 (c.take i) (fun e he => by have := mayL_at hm (h.mem e (List.mem_of_mem_take he)); omega)
    have h2 : ((c.take i).length : Int) ≤ 32 := by rw [List.length_take]; omega
    have hb := mayL_at hm (h.mem _ (List.getElem_mem (show i < c.length by omega)))
    generalize sumW (fun e : S48 => e.f2) (c.take i) = z at h1 ⊢
    generalize ((c.take i).length : Int) = y at h1 h2
    unfold wrap64
    omega
theorem wit_c {n : Int} {l c : List S48} (hm : mayL n l) (h : isLoop n l c) (hle : ∀ (h : 0 < c.length), ∀ e ∈ c, c[0].f0 ≤ e.f0) : merkhetlaw16_LoopWitness_c n l c := by
  have h0 := hm.1
  have h32 := hm.2.n32
  have hcl := h.le
  have hne := h.ne
  refine ⟨⟨hne, by omega, by omega⟩, ?_, fun i hi => ?_⟩
  · rw [wit_s hm h _ (Nat.le_refl _), List.take_of_length_le (Nat.le_refl _)]; exact h.neg
  · have hb := mayL_at hm (h.mem _ (List.getElem_mem hi))
    have hnx : merkhetlaw16_LoopWitness_nx c i < c.length := by unfold merkhetlaw16_LoopWitness_nx; split <;> omega
    rw [wit_r c i hi, wit_r c _ hnx, wit_r c 0 hne]
    refine ⟨List.any_eq_true.2 ⟨c[i], h.mem _ (List.getElem_mem hi), by unfold merkhetlaw16_LoopWitness_eq; simp⟩, ?_, ?_, ⟨hb.1, hb.2.1⟩, fun j hj => ?_⟩
    · have := h.rg.nx i hi
      exact this
    · have := hle hne _ (List.getElem_mem hi); omega
    · rw [wit_r c j (by omega)]
      intro e
      have := h.rg.dis j i (by omega) hi e
      omega
open Classical in
theorem LoopWitness : merkhetlaw16_LoopWitness.Pure := by
  intro n l hn hl hw
  refine Ev.rounds (g := fun k => merkhetlaw16_LoopWitness.f k n l) ?_
  unfold merkhetlaw16_LoopWitness.f
  by_cases cl : (l.length : Int) > 100
  · exact Ev.congr (fun k => by rw [if_pos cl]) wit_fix
  refine Ev.congr (fun k => by rw [if_neg cl]) ?_
  obtain ⟨r, h1, _, h3⟩ := loop_two n l (by omega)
  refine Ev.bind h1 (Ev.bind (refsolve_ev n l (by omega)) ?_)
  rcases h3 with ⟨rfl, h3⟩ | ⟨hm, hnc, h, hle⟩
  · rcases h3 with hno | ⟨hm, hc⟩
    · have e : solveP n l = ([], false) := by unfold solveP; rw [if_neg (fun h => hno h.1)]
      rw [e]
      refine Ev.congr (fun k => if_neg Bool.false_ne_true) (Ev.bind (ev_eq (refMay15_ev n l (by omega)) (decide_eq_false hno)) ?_)
      exact Ev.congr (fun k => by rw [if_neg Bool.false_ne_true, if_pos (show ([] : List S48).length = 0 from rfl)]) wit_fix
    · have e : solveP n l = (rowF n.toNat (L (eds l) n.toNat), true) := by unfold solveP; rw [if_pos ⟨hm, hc⟩]
      rw [e]
      exact Ev.congr (fun k => by rw [if_pos rfl, if_pos (show ([] : List S48).length = 0 from rfl)]) wit_fix
  · have e : solveP n l = ([], false) := by unfold solveP; rw [if_neg (fun h => hnc h.2)]
    rw [e]
    refine Ev.congr (fun k => if_neg Bool.false_ne_true) (Ev.bind (ev_eq (refMay15_ev n l (by omega)) (decide_eq_true hm)) ?_)
    exact Ev.congr (fun k => by rw [if_pos rfl, if_pos (wit_c hm h hle)]) wit_fix
end Go.Proofs.Ytacjlaiddnfpdaa.Pure
