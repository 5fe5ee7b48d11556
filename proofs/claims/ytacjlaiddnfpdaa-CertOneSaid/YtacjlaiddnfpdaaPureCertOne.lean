/- Offsets that are taken are those that are told. No conditions. -/
import Derived.Test.YtacjlaiddnfpdaaTx4
import Derived.Test.YtacjlaiddnfpdaaTC15a
import Derived.Test.YtacjlaiddnfpdaaTC15b
import Derived.Test.YtacjlaiddnfpdaaTC17b
import Derived.Test.YtacjlaiddnfpdaaTC17f
namespace Go.Proofs.Ytacjlaiddnfpdaa.Pure
open Go.RowKit Go.Proofs.Ytacjlaiddnfpdaa.T Go.Proofs.Ytacjlaiddnfpdaa.H Go.Proofs.YtacjlaiddnfpdaaW.PrintWords Go.Proofs.YtacjlaiddnfpdaaW.PrintLast

theorem certone_off (n : Int) (l : List S48) (x : List Int) : Ev (fun k => merkhetlaw17_CertOne.j0 k n l x true) true :=
  ev_step (f := fun k => (merkhetlaw17_fixed.f k).bind fun t => some t) (fun k => by rw [merkhetlaw17_CertOne.j0, if_pos rfl]) (Ev.bind law17_fixed_ev (Ev.now _))
open Classical in
theorem CertOne : merkhetlaw17_CertOne.Pure := by
  intro n l x hn hl hw hxl _ hxw
  refine Ev.rounds (g := fun k => merkhetlaw17_CertOne.f k n l x) ?_
  unfold merkhetlaw17_CertOne.f
  by_cases c : (l.length : Int) > 100
  · exact Ev.congr (fun k => by rw [if_pos c]) (certone_off n l x)
  refine Ev.congr (fun k => by rw [if_neg c]) ?_
  by_cases c2 : (x.length : Int) > 100
  · rw [decide_eq_true c2]; exact certone_off n l x
  rw [decide_eq_false c2]
  refine ev_step (fun k => by rw [merkhetlaw17_CertOne.j0, if_neg Bool.false_ne_true]) ?_
  refine Ev.bind (solve_ev n l (by omega)) (Ev.bind law17_fixed_ev (Ev.congr (fun k => by rw [if_pos rfl]) ?_))
  refine Ev.bind (certOffsets_ev n l x (by omega) (fun v hv => wf_i64B (hxw v hv)) (fun s hs => wf_i64B (hw s hs).2.2.1)) ?_
  rcases solveP_cases n l with ⟨hno, he⟩ | ⟨hm, hc, he⟩
  · rw [he, decide_eq_false (show ¬ takenP n l x from fun h => hno ⟨h.1, h.2.1⟩)]
    exact Ev.congr (f := fun _ => some true) (fun k => by rw [if_neg Bool.false_ne_true]; rfl) (Ev.now _)
  · rw [he]
    refine Ev.congr (fun k => by rw [if_pos rfl]) ?_
    have h32 := hm.2.n32
    refine Ev.bind (same15_ev _ x (by rw [rowF_length]; omega)) ?_
    rw [show decide (takenP n l x) = decide (rowF n.toNat (L (eds l) n.toNat) = x) by rw [decide_eq_decide]; exact ⟨fun h => h.2.2.symm, fun h => ⟨hm, hc, h.symm⟩⟩]
    exact Ev.congr (f := fun _ => some true) (fun k => by rw [beq_self_eq_true]) (Ev.now _)
end Go.Proofs.Ytacjlaiddnfpdaa.Pure
