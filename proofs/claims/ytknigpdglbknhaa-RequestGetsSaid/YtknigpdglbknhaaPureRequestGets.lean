/- What any bytes are read as, or why they aren't, is the document's; what is read has just those bytes: for bytes of any length (beyond 5000 the law asks its example alone). No conditions. -/
import Derived.Test.YtknigpdglbknhaaQx3
import Derived.Test.YtknigpdglbknhaaQC23g
set_option linter.unusedVariables false
namespace Go.Proofs.Ytknigpdglbknhaa.Pure
open Go.RowKit Go.Proofs.Ytknigpdglbknhaa.Q Go.Proofs.Ytknigpdglbknhaa.H Go.Proofs.YtknigpdglbknhaaW.PrintWords Go.Proofs.YtknigpdglbknhaaW.PrintLast
theorem fix_ev : Ev (fun k => merkhetlaw23_RequestGets_fix k) true := Ev.bind law23_fixed_ev (Ev.congr (f := fun _ => some true) (fun k => if_pos rfl) (Ev.now _))
theorem RequestGets : merkhetlaw23_RequestGets.Pure := by
  intro l hl _ hw
  obtain ⟨m, rfl, hb⟩ := row_bytes l hw
  refine Ev.rounds (g := fun k => merkhetlaw23_RequestGets.f k (rowB m)) ?_
  unfold merkhetlaw23_RequestGets.f
  rw [rowB_length]
  by_cases c : (m.length : Int) > 5000
  · exact Ev.congr (fun k => by rw [if_pos c]) fix_ev
  refine Ev.congr (fun k => by rw [if_neg c]) ?_
  refine Ev.bind (reqGet_ev m hb (by omega)) ?_
  rw [show strOfNums (rowB m) = txt m from rfl]
  refine Ev.bind (refGet23_ev m hb (by omega)) ?_
  have hs : merkhetref23_Same.f (getRq m).1 (rowB (getRq m).2.1) (getRq m).2.2.1 (getRq m).1 (rowB (getRq m).2.1) (getRq m).2.2.1 = some true := by
    unfold merkhetref23_Same.f
    rw [if_pos rfl, if_pos rfl, beq_self_eq_true]
  refine Ev.congr (fun k => by rw [if_pos ⟨rfl, hs⟩]) ?_
  by_cases c0 : (getRq m).2.2.2 = 0
  · refine Ev.congr (fun k => by rw [if_pos c0]) ?_
    refine Ev.bind (reqPut_ev (getRq m).1 (getRq m).2.2.1 (getRq m).2.1 (getRq_t hb).1) ?_
    rw [putR_get hb c0]
    refine Ev.congr (fun k => ?_) fix_ev
    rw [if_pos ⟨⟨rfl, rfl⟩, by rw [rowB_length]; have := getRq_len m; omega⟩]
  · exact Ev.congr (fun k => by rw [if_neg c0]) fix_ev
end Go.Proofs.Ytknigpdglbknhaa.Pure
