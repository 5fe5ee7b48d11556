/- The pairs among any parents are the document's; so are those among the document's own parents. No conditions. -/
import Derived.Test.YtcgjplolehhpjaaRx9
import Derived.Test.YtcgjplolehhpjaaRC12p
import Derived.Test.YtcgjplolehhpjaaRC12f
import Derived.Test.YtcgjplolehhpjaaRC10c
namespace Go.Proofs.Ytcgjplolehhpjaa.Pure
open Go.RowKit Go.Proofs.Ytcgjplolehhpjaa.R Go.Proofs.Ytcgjplolehhpjaa.H Go.Proofs.YtcgjplolehhpjaaW.PrintWords Go.Proofs.YtcgjplolehhpjaaW.PrintLast

theorem pairs_off (l : List S37) (ps : List Int) : Ev (fun k => merkhetlaw12_RpcPairs.j0 k l ps true) true :=
  Ev.step_ (f := fun k => (merkhetlaw12_fixed.f k).bind fun t => some t) (fun k => by rw [merkhetlaw12_RpcPairs.j0, if_pos rfl]) (Ev.bind law12_fixed_ev (Ev.now _))
theorem RpcPairs : merkhetlaw12_RpcPairs.Pure := by
  intro l ps hl hw hp _ hpw
  refine Ev.rounds (g := fun k => merkhetlaw12_RpcPairs.f k l ps) ?_
  unfold merkhetlaw12_RpcPairs.f
  refine Ev.bind (greatS_ev l) ?_
  by_cases c : greatS l = true
  · exact Ev.congr (fun k => by rw [if_pos c]) (pairs_off l ps)
  · refine Ev.congr (fun k => by rw [if_neg c]) ?_
    have f := fineL_of hw (by simpa using c)
    have hn := f.1
    by_cases c2 : (ps.length : Int) > 60
    · rw [decide_eq_true c2]
      exact pairs_off l ps
    · rw [decide_eq_false c2]
      refine Ev.step_ (fun k => by rw [merkhetlaw12_RpcPairs.j0, if_neg Bool.false_ne_true]) ?_
      refine Ev.bind (refOf_ev l (by omega)) (Ev.bind law12_fixed_ev ?_)
      refine Ev.congr (fun k => by rw [if_pos rfl]) ?_
      have h1 := pairsS_length l ps
      have h2 := pairsS_length l (cut (parS l))
      rw [cut_length, parS_length] at h2
      refine Ev.bind (rpcOf_ev f ps) (Ev.bind (ref12Of_ev f ps) (Ev.bind (same12_ev _ (by omega)) ?_))
      refine Ev.congr (fun k => by rw [if_pos rfl]) ?_
      exact Ev.bind (rpcOf_ev f _) (Ev.bind (ref12Of_ev f _) (Ev.bind (same12_ev _ (by omega)) (Ev.now _)))
end Go.Proofs.Ytcgjplolehhpjaa.Pure
