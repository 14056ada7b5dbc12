import Derived.Test.YtcbjabnnokjnpaaProg
import Derived.Test.YtcbjabnnokjnpaaFwTM
import Derived.Test.YtcbjabnnokjnpaaSH16cM
set_option linter.all false
set_option linter.unusedVariables false
set_option linter.unusedSimpArgs false
set_option maxRecDepth 100000
set_option maxHeartbeats 1000000
namespace Go.Proofs.Ytcbjabnnokjnpaa.Fw
open Go Go.Fw Go.Proofs
attribute [local irreducible] stepI
end Go.Proofs.Ytcbjabnnokjnpaa.Fw
namespace Go.Proofs.Ytcbjabnnokjnpaa.Fw
open Go Go.Fw
end Go.Proofs.Ytcbjabnnokjnpaa.Fw
