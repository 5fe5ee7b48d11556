/- Layer 12's example. -/
import Derived.Test.YtcgjplolehhpjaaSx4
set_option linter.unusedVariables false
namespace Go.Proofs.Ytcgjplolehhpjaa.S
open Go.RowKit Go.Proofs.Ytcgjplolehhpjaa.H Go.Proofs.YtcgjplolehhpjaaW.PrintWords Go.Proofs.YtcgjplolehhpjaaW.PrintLast Go.Proofs.YtcgjplolehhpjaaW.PrintMore
theorem law12_fixed_ev : Ev (fun k => merkhetlaw12_fixed.f k) true := Ev.of (fun k => merkhetlaw12_fixed.mono k) (k := 12) (by decide +kernel)
end Go.Proofs.Ytcgjplolehhpjaa.S
