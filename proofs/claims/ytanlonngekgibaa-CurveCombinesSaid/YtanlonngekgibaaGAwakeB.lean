/- The examples of the chapter. -/
import Derived.Test.YtanlonngekgibaaF11
namespace Go.Proofs.Ytanlonngekgibaa.Pr
open Go.RowKit Go.Proofs.YtanlonngekgibaaW.PrintWords Go.Proofs.YtanlonngekgibaaW.PrintLast Go.Proofs.YtanlonngekgibaaW.PrintMore
set_option maxRecDepth 100000 in
theorem awake_true : standbylaw55_awake.f 29999 = some true := by decide +kernel
end Go.Proofs.Ytanlonngekgibaa.Pr
