-- What wip/tools/prune.py of this project has left of a text that the print of the kit wrote.
import Derived.Test.YtdpodjgggicaoaaWTabt
namespace Go.Proofs.YtdpodjgggicaoaaW.PrintLast
section
variable {P : Program} {ops : Array Oper} {Q : Exit → Act → World → Prop} {md : Region.Mode} {S : World → Prop} {ds : List Nat} {T : Bool × List (List Nat × List Nat)}
end
end Go.Proofs.YtdpodjgggicaoaaW.PrintLast
