import Derived.Test.YtcdagkcchfibjaaGreatProg
import Derived.Test.YtcdagkcchfibjaaGreatFwTP
import Derived.Test.YtcdagkcchfibjaaGreatSZwP
import Derived.Test.YtcdagkcchfibjaaGreatGfEP
import Derived.Test.YtcdagkcchfibjaaGreatSZgP
import Derived.Test.YtcdagkcchfibjaaGreatGfBP
set_option linter.all false
set_option linter.unusedVariables false
set_option linter.unusedSimpArgs false
set_option maxRecDepth 100000
set_option maxHeartbeats 1000000
namespace Go.Proofs.YtcdagkcchfibjaaGreat.Fw
open Go Go.Fw Go.Proofs
attribute [local irreducible] stepI
end Go.Proofs.YtcdagkcchfibjaaGreat.Fw
namespace Go.Proofs.YtcdagkcchfibjaaGreat.Fw
open Go Go.Fw
end Go.Proofs.YtcdagkcchfibjaaGreat.Fw

namespace Go.Proofs.YtcdagkcchfibjaaGreat.Fw
open Go Go.Fw
end Go.Proofs.YtcdagkcchfibjaaGreat.Fw

set_option linter.unusedVariables false
set_option linter.unusedSimpArgs false
set_option maxRecDepth 100000
set_option maxHeartbeats 1000000
namespace Go.Proofs.YtcdagkcchfibjaaGreat.Fw
open Go Go.Fw Go.Proofs
attribute [local irreducible] stepI
end Go.Proofs.YtcdagkcchfibjaaGreat.Fw
namespace Go.Proofs.YtcdagkcchfibjaaGreat.Fw
open Go Go.Fw
end Go.Proofs.YtcdagkcchfibjaaGreat.Fw

/- The additive transform, step by step, over indices. Plain maths. -/
set_option linter.unusedVariables false
namespace Go.Fw
section
variable {h i : Nat}
end
end Go.Fw
