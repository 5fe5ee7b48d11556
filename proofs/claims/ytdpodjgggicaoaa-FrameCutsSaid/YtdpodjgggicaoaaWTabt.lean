-- What wip/tools/prune.py of this project has left of a text that the print of the kit wrote.
import Derived.Test.YtdpodjgggicaoaaWLastt
import Derived.Test.YtdpodjgggicaoaaWWordst
namespace Go.Proofs.YtdpodjgggicaoaaW.PrintLast
open Go.Proofs.YtdpodjgggicaoaaW.PrintWords (Aside0)
section
variable {md : Region.Mode} {ops : Array Oper} {T : Bool × List (List Nat × List Nat)} {l l' li lj lk : Array Bool} {ds : List Nat} {i j k : Nat}
end
end Go.Proofs.YtdpodjgggicaoaaW.PrintLast
