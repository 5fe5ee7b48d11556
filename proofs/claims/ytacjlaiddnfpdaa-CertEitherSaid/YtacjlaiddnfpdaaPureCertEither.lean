/- Of any edges that may be just one is taken: the offsets that are told of them, or the chain: for up to 100 edges (beyond, the law asks its example alone). No conditions. -/
import Derived.Test.YtacjlaiddnfpdaaCEx8
import Derived.Test.YtacjlaiddnfpdaaCEC17w
set_option linter.unusedVariables false
namespace Go.Proofs.Ytacjlaiddnfpdaa.Pure
open Go.RowKit Go.Proofs.Ytacjlaiddnfpdaa.CE Go.Proofs.Ytacjlaiddnfpdaa.H Go.Proofs.YtacjlaiddnfpdaaW.PrintWords Go.Proofs.YtacjlaiddnfpdaaW.PrintLast
theorem rowE_b {n : Int} {l : List S48} (hm : mayL n l) : ∀ v ∈ rowF n.toNat (L (eds l) n.toNat), i64B v := by
  intro v hv
  obtain ⟨h, _, rfl⟩ := List.mem_map.1 hv
  have h1 := L_low hm.2 n.toNat (h : Int)
  have h2 := L_nonpos (eds l) n.toNat (h : Int)
  have h3 := hm.2.n32
  unfold i64B
  omega
open Classical in
theorem CertEither : merkhetlaw17_CertEither.Pure := by
  intro n l hn hl hw
  refine Ev.rounds (g := fun k => merkhetlaw17_CertEither.f k n l) ?_
  unfold merkhetlaw17_CertEither.f
  have jt : Ev (fun k => merkhetlaw17_CertEither.j0 k n l true) true := Ev.step (f := fun k => (merkhetlaw17_fixed.f k).bind fun t => some t) (fun k => by rw [merkhetlaw17_CertEither.j0, if_pos rfl]) (Ev.bind law17_fixed_ev (Ev.now _))
  by_cases cl : (l.length : Int) > 100
  · exact Ev.congr (fun k => by rw [if_pos cl]) jt
  refine Ev.congr (fun k => by rw [if_neg cl]) ?_
  by_cases hm : mayL n l
  case neg =>
    refine Ev.bind (ev_eq (refMay15_ev n l (by omega)) (decide_eq_false hm)) ?_
    exact Ev.congr (fun k => by rw [Bool.not_false]) jt
  refine Ev.bind (ev_eq (refMay15_ev n l (by omega)) (decide_eq_true hm)) ?_
  refine Ev.congr (fun k => by rw [Bool.not_true]) ?_
  refine Ev.step (fun k => by rw [merkhetlaw17_CertEither.j0, if_neg Bool.false_ne_true]) ?_
  refine Ev.bind (solve_ev n l (by omega)) ?_
  have hs : ∀ s ∈ l, i64B s.f2 := fun s h => wf_i64B (hw s h).2.2.1
  obtain ⟨c, h1, h3⟩ := loop_one n l (by omega)
  by_cases hc : ∀ h, 0 ≤ h → h < n → L (eds l) n.toNat h = L (eds l) (n.toNat - 1) h
  · have e : solveP n l = (rowF n.toNat (L (eds l) n.toNat), true) := by unfold solveP; rw [if_pos ⟨hm, hc⟩]
    rw [e]
    refine Ev.bind (ev_eq (certOffsets_ev n l _ (by omega) (rowE_b hm) hs) (decide_eq_true ⟨hm, hc, rfl⟩)) ?_
    rcases h3 with ⟨rfl, _⟩ | ⟨_, hno, _⟩
    case inr => exact absurd hc hno
    refine Ev.bind h1 ?_
    have hch : Ev (fun k => cert_Chain.f k n l []) false := by
      obtain ⟨r, g1, g2⟩ := chain_r (c := []) hm (by omega) (by simp)
      cases r with
      | false => exact g1
      | true => exact absurd rfl (g2.1 rfl).1
    refine Ev.bind hch (Ev.bind law17_fixed_ev ?_)
    exact Ev.congr (f := fun _ => some true) (fun k => rfl) (Ev.now _)
  · have e : solveP n l = ([], false) := by unfold solveP; rw [if_neg (fun h => hc h.2)]
    rw [e]
    refine Ev.bind (ev_eq (certOffsets_ev n l _ (by omega) (fun v hv => by cases hv) hs) (decide_eq_false (fun h => hc h.2.1))) ?_
    rcases h3 with ⟨_, hno⟩ | ⟨_, _, h, _⟩
    · exfalso
      rcases hno with h | ⟨_, h⟩
      · exact h hm
      · exact hc h
    refine Ev.bind h1 (Ev.bind (chain_loop hm (by omega) h) (Ev.bind law17_fixed_ev ?_))
    exact Ev.congr (f := fun _ => some true) (fun k => rfl) (Ev.now _)
end Go.Proofs.Ytacjlaiddnfpdaa.Pure
