/- Layer 10's example. -/
import Derived.Test.YtcgjplolehhpjaaUx1
set_option linter.unusedVariables false
namespace Go.Proofs.Ytcgjplolehhpjaa.U
open Go.RowKit Go.Proofs.Ytcgjplolehhpjaa.H Go.Proofs.YtcgjplolehhpjaaW.PrintWords Go.Proofs.YtcgjplolehhpjaaW.PrintLast Go.Proofs.YtcgjplolehhpjaaW.PrintMore
theorem law10_fixed_ev : Ev (fun k => merkhetlaw10_fixed.f k) true := Ev.of (fun k => merkhetlaw10_fixed.mono k) (k := 12) (by decide +kernel)
end Go.Proofs.Ytcgjplolehhpjaa.U
