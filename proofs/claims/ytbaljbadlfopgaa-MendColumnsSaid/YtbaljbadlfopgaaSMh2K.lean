import Derived.Test.YtbaljbadlfopgaaProg
import Derived.Test.YtbaljbadlfopgaaFwTK
import Derived.Test.YtbaljbadlfopgaaSMgdK
import Derived.Test.YtbaljbadlfopgaaFwYK
set_option linter.all false
set_option linter.unusedVariables false
set_option linter.unusedSimpArgs false
set_option maxRecDepth 100000
set_option maxHeartbeats 1000000
namespace Go.Proofs.Ytbaljbadlfopgaa.Fw
open Go Go.Fw Go.Proofs
attribute [local irreducible] stepI
end Go.Proofs.Ytbaljbadlfopgaa.Fw
namespace Go.Proofs.Ytbaljbadlfopgaa.Fw
open Go Go.Fw
/-- What 'lengths' finds: L: the lengths, n: how many. -/
structure Lns (L : Nat → Nat) (n len : Nat) (ev : Bool) : Prop where
  z : len = 0 ↔ ∀ j, j < n → L j = 0
  e : ev = true ↔ ∀ j, j < n → L j = 0 ∨ L j = len
  m : len ≠ 0 → ∃ j, j < n ∧ L j = len
def zis (L : Nat → Nat) (n : Nat) : List Int := ((List.range n).filter fun j => decide (L j = 0)).map fun (j : Nat) => (j : Int)
end Go.Proofs.Ytbaljbadlfopgaa.Fw

set_option linter.unusedVariables false
set_option linter.unusedSimpArgs false
set_option maxRecDepth 100000
set_option maxHeartbeats 1000000
namespace Go.Proofs.Ytbaljbadlfopgaa.Fw
open Go Go.Fw Go.Proofs
attribute [local irreducible] stepI
end Go.Proofs.Ytbaljbadlfopgaa.Fw
namespace Go.Proofs.Ytbaljbadlfopgaa.Fw
open Go Go.Fw
end Go.Proofs.Ytbaljbadlfopgaa.Fw
