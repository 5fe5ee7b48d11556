-- What wip/tools/prune.py of this project has left of a text that the print of the kit wrote.
import Derived.Test.YtdpodjgggicaoaaWWordst
import Derived.Laws.StructEq
namespace Go.Proofs.YtdpodjgggicaoaaW.PrintWords
open Go.RowKit
section
variable {P : Program} {d : Nat} {xs ys : Array Value} {f : Field} {fs : List Field} {a b : Value} {r s : Bool} {w : World}
end
end Go.Proofs.YtdpodjgggicaoaaW.PrintWords
