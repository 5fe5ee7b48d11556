/- The plain mathematics of layer 7: a segment's head. -/
import Derived.Test.YtdpodjgggicaoaaH9t
set_option linter.unusedVariables false
namespace Go.Proofs.Ytdpodjgggicaoaa.H
end Go.Proofs.Ytdpodjgggicaoaa.H
