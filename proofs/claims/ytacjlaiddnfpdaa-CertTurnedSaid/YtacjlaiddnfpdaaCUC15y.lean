/- Layer 15's May, the program's. -/
import Derived.Test.YtacjlaiddnfpdaaCUx2
import Derived.Test.YtacjlaiddnfpdaaCUC15a
set_option linter.unusedVariables false
namespace Go.Proofs.Ytacjlaiddnfpdaa.CU
open Go.RowKit Go.Proofs.Ytacjlaiddnfpdaa.H Go.Proofs.YtacjlaiddnfpdaaW.PrintWords Go.Proofs.YtacjlaiddnfpdaaW.PrintLast Go.Proofs.YtacjlaiddnfpdaaW.PrintMore
open Classical in
theorem relaxMay_eq (n : Int) (l : List S48) : relax_May.f n l = some (decide (mayL n l)) := by
  unfold relax_May.f
  by_cases c : n < 0
  · rw [if_pos c, decide_eq_false (fun h : mayL n l => by have := h.1; omega)]
  · rw [if_neg c]
    by_cases c2 : n > 32
    · rw [if_pos c2, decide_eq_false (fun h : mayL n l => by have := h.2.n32; omega)]
    · rw [if_neg c2]
      congr 1
      rw [Bool.eq_iff_iff, decide_eq_true_eq, Bool.not_eq_true']
      constructor
      · intro h
        refine mayL_mk (by omega) (by omega) fun s hs => ?_
        have hb : ¬ mayBad n s = true := fun hb => by
          rw [List.any_eq_true.2 ⟨s, hs, hb⟩] at h
          cases h
        unfold mayBad mn mx at hb
        simp only [Bool.or_eq_true, decide_eq_true_eq, not_or, ge_iff_le, gt_iff_lt] at hb
        obtain ⟨⟨⟨h1, h2⟩, h3⟩, h4⟩ := hb
        split at h1 <;> split at h2 <;> omega
      · intro h
        rw [Bool.eq_false_iff]
        intro ha
        obtain ⟨s, hs, hb⟩ := List.any_eq_true.1 ha
        have := mayL_at h hs
        unfold mayBad mn mx at hb
        simp only [Bool.or_eq_true, decide_eq_true_eq, ge_iff_le, gt_iff_lt] at hb
        rcases hb with ((h1 | h2) | h3) | h4
        · split at h1 <;> omega
        · split at h2 <;> omega
        · omega
        · omega
end Go.Proofs.Ytacjlaiddnfpdaa.CU
