/- The chain of any edges, for any number of hosts, is the document's: for up to 100 edges (beyond, the law asks its example alone). No conditions. -/
import Derived.Test.YtacjlaiddnfpdaaLBx7
import Derived.Test.YtacjlaiddnfpdaaLBC16m
set_option linter.unusedVariables false
namespace Go.Proofs.Ytacjlaiddnfpdaa.Pure
open Go.RowKit Go.Proofs.Ytacjlaiddnfpdaa.LB Go.Proofs.Ytacjlaiddnfpdaa.H Go.Proofs.YtacjlaiddnfpdaaW.PrintWords Go.Proofs.YtacjlaiddnfpdaaW.PrintLast
theorem LoopOf : merkhetlaw16_LoopOf.Pure := by
  intro n l hn hl hw
  refine Ev.rounds (g := fun k => merkhetlaw16_LoopOf.f k n l) ?_
  unfold merkhetlaw16_LoopOf.f
  by_cases c : (l.length : Int) > 100
  · refine Ev.congr (fun k => by rw [if_pos c]) ?_
    exact Ev.bind law16_fixed_ev (Ev.now _)
  · refine Ev.congr (fun k => by rw [if_neg c]) ?_
    refine Ev.bind law16_fixed_ev (Ev.congr (fun k => by rw [if_pos rfl]) ?_)
    obtain ⟨r, h1, h2, h3⟩ := loop_two n l (by omega)
    have hr : r.length < 1000000000 := by
      rcases h3 with ⟨rfl, _⟩ | ⟨hm, _, h, _⟩
      · exact Nat.zero_lt_succ _
      · have := h.le; have := hm.2.n32; omega
    exact Ev.bind h1 (Ev.bind h2 (Ev.bind (same14_ev r hr) (Ev.now _)))
end Go.Proofs.Ytacjlaiddnfpdaa.Pure
