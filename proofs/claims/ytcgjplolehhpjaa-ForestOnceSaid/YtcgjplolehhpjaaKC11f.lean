/- Layer 11's example. -/
import Derived.Test.YtcgjplolehhpjaaKx2
set_option linter.unusedVariables false
namespace Go.Proofs.Ytcgjplolehhpjaa.K
open Go.RowKit Go.Proofs.YtcgjplolehhpjaaW.PrintWords Go.Proofs.YtcgjplolehhpjaaW.PrintLast Go.Proofs.YtcgjplolehhpjaaW.PrintMore
theorem law11_fixed_ev : Ev (fun k => merkhetlaw11_fixed.f k) true := Ev.of (fun k => merkhetlaw11_fixed.mono k) (k := 12) (by decide +kernel)
end Go.Proofs.Ytcgjplolehhpjaa.K
