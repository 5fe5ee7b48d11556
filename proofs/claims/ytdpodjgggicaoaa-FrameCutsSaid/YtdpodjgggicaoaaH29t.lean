/- The plain mathematics of layer 7: a segment's bodies. -/
import Derived.Test.YtdpodjgggicaoaaH7t
import Derived.Test.YtdpodjgggicaoaaH27t
set_option linter.unusedVariables false
set_option linter.unusedSimpArgs false
namespace Go.Proofs.Ytdpodjgggicaoaa.H
theorem frameAt_e0 {s : List Nat} {e : Int} (h : frameAt s = .error e) : e ≠ 0 := by
  unfold frameAt at h
  split at h
  · have := Except.error.inj h; omega
  split at h
  · have := Except.error.inj h; omega
  split at h
  · have := Except.error.inj h; omega
  split at h
  · have := Except.error.inj h; omega
  split at h
  · have := Except.error.inj h; omega
  · exact absurd h (by simp)
end Go.Proofs.Ytdpodjgggicaoaa.H
