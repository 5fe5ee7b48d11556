-- What wip/tools/prune.py of this project has left of a text that the print of the kit wrote.
import Derived.Test.YtdpodjgggicaoaaWNt
namespace Go.Proofs.YtdpodjgggicaoaaW.PrintWords
open Go.RowKit
namespace Kd
section
variable {α : Type} {d : Kd α} {W : World} {g n : Nat} {S ok : Nat → Prop} {A : Option Addr} {ad : Addr} {xs : List α}
end
end Kd
end Go.Proofs.YtdpodjgggicaoaaW.PrintWords
