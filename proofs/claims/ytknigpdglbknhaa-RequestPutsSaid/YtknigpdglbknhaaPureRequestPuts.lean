/- Whether any request may be, and its bytes, are the document's; they are read as it: for bodies of any length (beyond 5000 bytes the law asks its example alone). -/
import Derived.Test.YtknigpdglbknhaaQC23r
import Derived.Test.YtknigpdglbknhaaQx4
set_option linter.unusedVariables false
namespace Go.Proofs.Ytknigpdglbknhaa.Pure
open Go.RowKit Go.Proofs.Ytknigpdglbknhaa.Q Go.Proofs.YtknigpdglbknhaaW.PrintWords Go.Proofs.YtknigpdglbknhaaW.PrintLast Go.Proofs.Ytknigpdglbknhaa.H
theorem RequestPuts : merkhetlaw23_RequestPuts.Pure := by
  intro kd l t hk hmax hl ht
  obtain ⟨b, rfl, hb⟩ := row_bytes l hl
  have ht0 : 0 ≤ t ∧ t ≤ 18446744073709551615 := by
    simp [Lit.wf, IntKind.min, IntKind.max, IntKind.signed, IntKind.bits] at ht
    omega
  refine Ev.rounds (g := fun k => merkhetlaw23_RequestPuts.f k kd (rowB b) t) ?_
  unfold merkhetlaw23_RequestPuts.f
  by_cases c : ((rowB b).length : Int) > 5000
  · exact Ev.congr (fun k => by rw [if_pos c]) (Ev.bind law23_fixed_ev (Ev.now _))
  refine Ev.congr (fun k => by rw [if_neg c]) ?_
  rw [rowB_length] at c
  refine Ev.bind (reqPut_ev kd t b ht0.1) (Ev.bind (refPut23_ev kd t b ht0.1 ht0.2) (Ev.bind (reqMay_ev kd t (rowB b)) (Ev.bind (refMay23_ev kd t (rowB b)) ?_)))
  refine Ev.congr (fun k => by rw [bne_self_eq_false, if_neg Bool.false_ne_true, strOf_rowB, if_pos rfl, bne_self_eq_false]) ?_
  rw [show ((fun k => merkhetlaw23_RequestPuts.j0 k (rowB (putR kd b t).1) (putR kd b t).2 false kd (rowB b) t) = fun k => merkhetlaw23_RequestPuts.j0 k (rowB (putR kd b t).1) (putR kd b t).2 false kd (rowB b) t) from rfl]
  cases hm : mayR kd b.length t with
  | false =>
    have e : putR kd b t = ([], 1) := by unfold putR; rw [if_neg (by rw [hm]; exact Bool.false_ne_true)]
    rw [e]
    refine Ev.step (fun k => by rw [merkhetlaw23_RequestPuts.j0, if_neg Bool.false_ne_true, if_neg (by decide)]) (Ev.bind law23_fixed_ev (Ev.now _))
  | true =>
    have h := mayR_kd hm
    have e : (putR kd b t).2 = 0 := by unfold putR; rw [if_pos hm]
    have hlen : (putR kd b t).1.length ≤ 5000 := by
      unfold putR; rw [if_pos hm]
      show (kd.toNat :: b ++ _).length ≤ _
      rw [List.length_append, List.length_cons]
      have : (if kd = 4 then nb 8 t.toNat else []).length ≤ 8 := by split <;> simp [nb_length]
      omega
    refine Ev.step (fun k => by rw [merkhetlaw23_RequestPuts.j0, if_neg Bool.false_ne_true, if_pos e]) ?_
    refine Ev.bind (reqGet_ev (putR kd b t).1 (putR_isB hb) (by omega)) ?_
    rw [getRq_put hm ht0.1 ht0.2]
    refine Ev.bind law23_fixed_ev ?_
    refine Ev.congr (f := fun _ => some true) (fun k => ?_) (Ev.now _)
    rw [if_pos rfl, if_pos rfl]
    unfold merkhetref23_Same.f
    rw [if_pos rfl, if_pos rfl, Option.bind_some, beq_self_eq_true]
end Go.Proofs.Ytknigpdglbknhaa.Pure
