/- Layer 17's examples. -/
import Derived.Test.YtacjlaiddnfpdaaCUx3
set_option linter.unusedVariables false
namespace Go.Proofs.Ytacjlaiddnfpdaa.CU
open Go.RowKit Go.Proofs.Ytacjlaiddnfpdaa.H Go.Proofs.YtacjlaiddnfpdaaW.PrintWords Go.Proofs.YtacjlaiddnfpdaaW.PrintLast Go.Proofs.YtacjlaiddnfpdaaW.PrintMore
theorem law17_fixed_ev : Ev (fun k => merkhetlaw17_fixed.f k) true := Ev.of (fun k => merkhetlaw17_fixed.mono k) (k := 12) (by decide +kernel)
end Go.Proofs.Ytacjlaiddnfpdaa.CU
