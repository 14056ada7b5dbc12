import Derived.Test.YtbaljbadlfopgaaProg
import Derived.Test.YtbaljbadlfopgaaFwTW
import Derived.Test.YtbaljbadlfopgaaSRB0W
import Derived.Test.YtbaljbadlfopgaaGfXW
import Derived.Test.YtbaljbadlfopgaaGfEW
set_option linter.all false
set_option linter.unusedVariables false
set_option linter.unusedSimpArgs false
set_option maxRecDepth 100000
set_option maxHeartbeats 1000000
namespace Go.Proofs.Ytbaljbadlfopgaa.Fw
open Go Go.Fw Go.Proofs
attribute [local irreducible] stepI
end Go.Proofs.Ytbaljbadlfopgaa.Fw
namespace Go.Proofs.Ytbaljbadlfopgaa.Fw
open Go Go.Fw
end Go.Proofs.Ytbaljbadlfopgaa.Fw

set_option linter.unusedVariables false
set_option linter.unusedSimpArgs false
set_option maxRecDepth 100000
set_option maxHeartbeats 1000000
namespace Go.Proofs.Ytbaljbadlfopgaa.Fw
open Go Go.Fw Go.Proofs
attribute [local irreducible] stepI
end Go.Proofs.Ytbaljbadlfopgaa.Fw
namespace Go.Proofs.Ytbaljbadlfopgaa.Fw
open Go Go.Fw
end Go.Proofs.Ytbaljbadlfopgaa.Fw

namespace Go.Proofs.Ytbaljbadlfopgaa.Fw
open Go Go.Fw
end Go.Proofs.Ytbaljbadlfopgaa.Fw
