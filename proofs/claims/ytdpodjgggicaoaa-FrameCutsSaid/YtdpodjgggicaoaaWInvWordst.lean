-- What wip/tools/prune.py of this project has left of a text that the print of the kit wrote.
import Derived.Test.YtdpodjgggicaoaaWInvt
import Derived.Test.YtdpodjgggicaoaaWFootNet
namespace Go.Proofs.YtdpodjgggicaoaaW.PrintWords
open Go.RowKit
end Go.Proofs.YtdpodjgggicaoaaW.PrintWords
namespace Go.Proofs.YtdpodjgggicaoaaW.PrintLast
section
variable {ops : Array Oper} {a : Act} {o og : Oper} {g : Nat} {t : Tmp} {u : Bool}
end
end Go.Proofs.YtdpodjgggicaoaaW.PrintLast
