/- Whether offsets are taken, and whether a chain is, the program tells as the document does: for any bounds, offsets and chain (what is too many asks the example alone). -/
import Derived.Test.YtacjlaiddnfpdaaYC17m
import Derived.Test.YtacjlaiddnfpdaaYx7
set_option linter.unusedVariables false
namespace Go.Proofs.Ytacjlaiddnfpdaa.Pure
open Go.RowKit Go.Proofs.Ytacjlaiddnfpdaa.Y Go.Proofs.Ytacjlaiddnfpdaa.H Go.Proofs.YtacjlaiddnfpdaaW.PrintWords Go.Proofs.YtacjlaiddnfpdaaW.PrintLast

open Classical in
theorem CertTaken : merkhetlaw17_CertTaken.Pure := by
  intro n l x c hn hl hw hxl hxw hcl hcw
  refine Ev.rounds (g := fun k => merkhetlaw17_CertTaken.f k n l x c) ?_
  have off : Ev (fun k => merkhetlaw17_CertTaken.j0 k n l true x c) true :=
    ev_step (f := fun k => (merkhetlaw17_fixed.f k).bind fun t => some t) (fun k => by rw [merkhetlaw17_CertTaken.j0, if_pos rfl]) (Ev.bind law17_fixed_ev (Ev.now _))
  unfold merkhetlaw17_CertTaken.f
  by_cases c1 : (l.length : Int) > 100
  · exact Ev.congr (fun k => by rw [if_pos c1]) off
  refine Ev.congr (fun k => by rw [if_neg c1]) ?_
  by_cases c2 : (x.length : Int) > 100
  · exact Ev.congr (fun k => by rw [if_pos c2]) off
  refine Ev.congr (fun k => by rw [if_neg c2]) ?_
  by_cases c3 : (c.length : Int) > 100
  · rw [decide_eq_true c3]; exact off
  rw [decide_eq_false c3]
  obtain ⟨r, g1, g2⟩ := chain_ev n l c (by omega) (by omega)
  refine ev_step (fun k => by rw [merkhetlaw17_CertTaken.j0, if_neg Bool.false_ne_true]) ?_
  refine Ev.bind law17_fixed_ev (Ev.congr (fun k => by rw [if_pos rfl]) ?_)
  refine Ev.bind (certOffsets_ev n l x (by omega) (fun v hv => wf_i64B (hxw v hv)) (fun s hs => wf_i64B (hw s hs).2.2.1)) ?_
  refine Ev.bind (refOffsets_ev n l x (by omega) (fun v hv => wf_i64B (hxw v hv)) (fun s hs => wf_i64B (hw s hs).2.2.1)) ?_
  refine Ev.congr (fun k => by rw [if_pos (beq_self_eq_true _)]) (Ev.bind g1 (Ev.bind g2 ?_))
  exact Ev.congr (f := fun _ => some true) (fun k => by rw [beq_self_eq_true]) (Ev.now _)
end Go.Proofs.Ytacjlaiddnfpdaa.Pure
