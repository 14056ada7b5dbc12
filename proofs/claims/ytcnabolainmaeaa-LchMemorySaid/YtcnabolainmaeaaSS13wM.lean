import Derived.Test.YtcnabolainmaeaaProg
import Derived.Test.YtcnabolainmaeaaFwTM
import Derived.Test.YtcnabolainmaeaaSS13uM
import Derived.Test.YtcnabolainmaeaaSS13qM
import Derived.Test.YtcnabolainmaeaaSS13eM
set_option linter.all false
set_option linter.unusedVariables false
set_option linter.unusedSimpArgs false
set_option maxRecDepth 100000
set_option maxHeartbeats 1000000
namespace Go.Proofs.Ytcnabolainmaeaa.Fw
open Go Go.Fw Go.Proofs
attribute [local irreducible] stepI
end Go.Proofs.Ytcnabolainmaeaa.Fw
namespace Go.Proofs.Ytcnabolainmaeaa.Fw
open Go Go.Fw
theorem list_of_mP {k : Nat} {a b : List (El 16)} (ha : a.length = 2 ^ k) (hb : b.length = 2 ^ k) (h : mP k (co a).c (2 ^ k) = mP k (co b).c (2 ^ k)) : a = b := co_ext (ha.trans hb.symm) (Ps.ext fun i => by
  by_cases hi : i < 2 ^ k
  · exact mP_inj (Nat.le_refl _) h i hi
  · rw [co_dg a i (by omega), co_dg b i (by omega)])
end Go.Proofs.Ytcnabolainmaeaa.Fw
