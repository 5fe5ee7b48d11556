/- The plain mathematics of layer 7: a segment that is cut off. -/
import Derived.Test.YtdpodjgggicaoaaH29s
set_option linter.unusedVariables false
set_option linter.unusedSimpArgs false
namespace Go.Proofs.Ytdpodjgggicaoaa.H
structure okX (x : List PS) : Prop where
  good : ∀ p ∈ x, p.good
  may : (wirePut x).2 = 0
end Go.Proofs.Ytdpodjgggicaoaa.H
