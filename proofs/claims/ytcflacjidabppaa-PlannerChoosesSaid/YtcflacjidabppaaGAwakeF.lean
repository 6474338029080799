/- What awake answers. -/
import Derived.Test.YtcflacjidabppaaP0
namespace Go.Proofs.Ytcflacjidabppaa.Pr
def standbylaw56_awake.f : Option Bool := some true
end Go.Proofs.Ytcflacjidabppaa.Pr
