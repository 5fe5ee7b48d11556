/- A chain that is taken is so from whichever edge on it is told; without its last edge, or twice, it isn't: for up to 100 edges (beyond, the law asks its example alone). No conditions. -/
import Derived.Test.YtacjlaiddnfpdaaCUx7
import Derived.Test.YtacjlaiddnfpdaaCUC17e
import Derived.Test.YtacjlaiddnfpdaaCUC17f
set_option linter.unusedVariables false
namespace Go.Proofs.Ytacjlaiddnfpdaa.Pure
open Go.RowKit Go.Proofs.Ytacjlaiddnfpdaa.CU Go.Proofs.Ytacjlaiddnfpdaa.H Go.Proofs.YtacjlaiddnfpdaaW.PrintWords Go.Proofs.YtacjlaiddnfpdaaW.PrintLast
theorem CertTurned : merkhetlaw17_CertTurned.Pure := by
  intro n l a hn hl hw ha
  refine Ev.rounds (g := fun k => merkhetlaw17_CertTurned.f k n l a) ?_
  unfold merkhetlaw17_CertTurned.f
  by_cases cl : (l.length : Int) > 100
  · refine Ev.congr (fun k => by rw [if_pos cl]) ?_
    exact Ev.bind law17_fixed_ev (Ev.now _)
  refine Ev.congr (fun k => by rw [if_neg cl]) ?_
  obtain ⟨c, h1, h3⟩ := loop_one n l (by omega)
  refine Ev.bind h1 ?_
  rcases h3 with ⟨rfl, _⟩ | ⟨hm, _, h, _⟩
  · refine Ev.congr (fun k => by rw [if_pos (by rfl)]) ?_
    exact Ev.bind law17_fixed_ev (Ev.now _)
  have h0 := hm.1
  have h32 := hm.2.n32
  have hcl := h.le
  have hne := h.ne
  have ha0 : 0 ≤ a ∧ a ≤ 255 := by
    simp [Lit.wf, IntKind.min, IntKind.max, IntKind.signed, IntKind.bits] at ha; omega
  obtain ⟨b, rfl⟩ := Int.eq_ofNat_of_zero_le ha0.1
  have e1 : wrap64 (b : Int) = (b : Int) := by unfold wrap64; omega
  have e2 : Int.tmod (b : Int) (c.length : Int) = ((b % c.length : Nat) : Int) := rfl
  have hk : b % c.length < c.length := Nat.mod_lt _ hne
  generalize b % c.length = k at e2 hk
  have e3 : wrap64 ((c.length : Int) - 1) = ((c.length - 1 : Nat) : Int) := by unfold wrap64; omega
  have hd : (c.drop k).length = c.length - k := List.length_drop
  have ht : (c.take k).length = k := by rw [List.length_take]; omega
  refine Ev.congr (fun q => by rw [if_neg (by omega), Option.bind_some, e1, e2, Int.toNat_natCast, if_pos (by omega), if_pos (by omega), Option.bind_some, if_pos (by rw [hd]; show 0 + _ < _; omega), Option.bind_some, List.nil_append, Option.bind_some, if_pos (by rw [hd, ht]; omega)]) ?_
  refine Ev.bind law17_fixed_ev (Ev.congr (fun q => by rw [if_pos rfl]) ?_)
  refine Ev.bind (chain_loop hm (by omega) h) (Ev.congr (fun q => by rw [if_pos rfl]) ?_)
  refine Ev.bind (chain_loop hm (by omega) (isLoop_turn h k (by omega))) (Ev.congr (fun q => by rw [if_pos rfl, Option.bind_some, if_pos (show ([] : List S48).length + c.length < 2932031007402 by show 0 + _ < _; omega), Option.bind_some, List.nil_append, if_pos (by omega)]) ?_)
  refine Ev.bind (chain_twice hm (by omega) (by omega) hne) (Ev.congr (fun q => by rw [if_neg Bool.false_ne_true, e3, if_pos (by omega), if_pos (by omega), Int.toNat_natCast]) ?_)
  exact Ev.bind (chain_short hm (by omega) h) (Ev.now _)
end Go.Proofs.Ytacjlaiddnfpdaa.Pure
