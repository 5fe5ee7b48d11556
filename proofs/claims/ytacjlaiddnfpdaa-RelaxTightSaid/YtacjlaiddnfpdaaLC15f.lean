/- Layer 15's example. -/
import Derived.Test.YtacjlaiddnfpdaaLx2
set_option linter.unusedVariables false
namespace Go.Proofs.Ytacjlaiddnfpdaa.L
open Go.RowKit Go.Proofs.Ytacjlaiddnfpdaa.H Go.Proofs.YtacjlaiddnfpdaaW.PrintWords Go.Proofs.YtacjlaiddnfpdaaW.PrintLast Go.Proofs.YtacjlaiddnfpdaaW.PrintMore
theorem law15_fixed_ev : Ev (fun k => merkhetlaw15_fixed.f k) true := Ev.of (fun k => merkhetlaw15_fixed.mono k) (k := 12) (by decide +kernel)
end Go.Proofs.Ytacjlaiddnfpdaa.L
