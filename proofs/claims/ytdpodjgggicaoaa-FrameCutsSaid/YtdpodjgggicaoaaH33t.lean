/- The plain mathematics of layer 7: a segment that is cut off. -/
import Derived.Test.YtdpodjgggicaoaaH29t
set_option linter.unusedVariables false
set_option linter.unusedSimpArgs false
namespace Go.Proofs.Ytdpodjgggicaoaa.H
structure okX (x : List PS) : Prop where
  good : ∀ p ∈ x, p.good
  may : (wirePut x).2 = 0
theorem frameAt_cut {b : List Nat} (hb : isB b) (h : (framePut b).2 = 0) (n : Nat) (hn : n < (framePut b).1.length) : frameAt ((framePut b).1.take n) = .error 2 := by
  obtain ⟨hl, h1, h2⟩ := framePut_length b h
  have hv : (framePut b).1 = nb 2 b.length ++ nb 4 (fsum b) ++ b := by unfold framePut; rw [if_pos ⟨h1, h2⟩]
  have hlen : ((framePut b).1.take n).length = n := by rw [List.length_take]; omega
  unfold frameAt
  rw [hlen]
  by_cases c : n < 6
  · rw [if_pos c]
  have e2 : ((framePut b).1.take n).take 2 = nb 2 b.length := by
    rw [List.take_take, Nat.min_eq_left (by omega), hv, List.append_assoc]
    exact List.take_left' (nb_length _ _)
  have n2 : num (nb 2 b.length) = b.length := by
    rw [num_nb]; have e : (256 : Nat) ^ 2 = 65536 := by decide
    rw [e]; omega
  rw [if_neg c, e2, n2, if_neg (by omega), if_neg (by omega), if_pos (by omega)]
end Go.Proofs.Ytdpodjgggicaoaa.H
