/- A row of numbers in a block of the call's own, known whole. -/
import Derived.Test.YtdpodjgggicaoaaWWordss
import Derived.Test.YtdpodjgggicaoaaWMores
import Derived.Laws.CopyOwn
set_option linter.unusedVariables false
namespace Go.Proofs.Ytdpodjgggicaoaa.H
open Go.RowKit Go.Proofs.YtdpodjgggicaoaaW.PrintWords Go.Proofs.YtdpodjgggicaoaaW.PrintMore
structure rowI (w : World) (g E : Nat) (st : List Int) : Prop where
  blk : w.heap[g]? = some (.cells (st.map (Value.int .i64)).toArray E (0, 0))
end Go.Proofs.Ytdpodjgggicaoaa.H
