/- Rows of numbers of the call's own, cell by cell; what a row is while it is filled by doubling. -/
import Derived.Test.YtdpodjgggicaoaaWWordsr
import Derived.Test.YtdpodjgggicaoaaWMorer
import Derived.Laws.CopyOwn
set_option linter.unusedVariables false
namespace Go.Proofs.Ytdpodjgggicaoaa.H
open Go.RowKit Go.Proofs.YtdpodjgggicaoaaW.PrintWords Go.Proofs.YtdpodjgggicaoaaW.PrintMore
structure repSt (k : IntKind) (E : Nat) (w0 w : World) (g cap m : Nat) (x : Int) : Prop where
  below : Below w0.heap.size w0 w
  far : w0.heap.size ≤ g
  max : cap ≤ maxLen
  row : ∃ cur : List Value, w.heap[g]? = some (.cells cur.toArray E (0, 0)) ∧ cur.length = cap ∧ cur.take m = List.replicate m (Value.int k x)
end Go.Proofs.Ytdpodjgggicaoaa.H
