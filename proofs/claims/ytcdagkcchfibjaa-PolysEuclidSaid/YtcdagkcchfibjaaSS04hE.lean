import Derived.Test.YtcdagkcchfibjaaProg
import Derived.Test.YtcdagkcchfibjaaSS04gE
set_option linter.all false
set_option linter.unusedVariables false
set_option linter.unusedSimpArgs false
set_option maxRecDepth 100000
namespace Go.Proofs.Ytcdagkcchfibjaa.Fw
open Go Go.Fw Go.Proofs
end Go.Proofs.Ytcdagkcchfibjaa.Fw
namespace Go.Proofs.Ytcdagkcchfibjaa.Fw
open Go Go.Fw
end Go.Proofs.Ytcdagkcchfibjaa.Fw

namespace Go.Proofs.Ytcdagkcchfibjaa.Fw
open Go Go.Fw
theorem em8_zero : em8 0 = 0 := rfl
theorem em8_eq0 (x : El 8) : (em8 x = 0) = (x = 0) := propext ⟨fun h => em8_inj (h.trans em8_zero.symm), fun h => by rw [h]; rfl⟩
end Go.Proofs.Ytcdagkcchfibjaa.Fw
