import Derived.Test.YtcnabolainmaeaaGfNM
import Derived.Test.YtcnabolainmaeaaProg
import Derived.Test.YtcnabolainmaeaaFwTM
import Derived.Test.YtcnabolainmaeaaSS13rM
set_option linter.all false
/- The document's product in GF(2^16): shift, add, reduce from the top; the even roots. Plain maths. -/
set_option linter.unusedVariables false
namespace Go.Fw
/-! Even roots. -/
end Go.Fw

set_option linter.unusedVariables false
set_option linter.unusedSimpArgs false
set_option maxRecDepth 100000
set_option maxHeartbeats 1000000
namespace Go.Proofs.Ytcnabolainmaeaa.Fw
open Go Go.Fw Go.Proofs
attribute [local irreducible] stepI
end Go.Proofs.Ytcnabolainmaeaa.Fw
namespace Go.Proofs.Ytcnabolainmaeaa.Fw
open Go Go.Fw
end Go.Proofs.Ytcnabolainmaeaa.Fw
