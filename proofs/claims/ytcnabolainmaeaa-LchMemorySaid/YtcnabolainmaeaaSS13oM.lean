import Derived.Test.YtcnabolainmaeaaProg
import Derived.Test.YtcnabolainmaeaaFwTM
import Derived.Test.YtcnabolainmaeaaSS13nM
import Derived.Test.YtcnabolainmaeaaSS13fM
import Derived.Test.YtcnabolainmaeaaFwWM
set_option linter.all false
set_option linter.unusedVariables false
set_option linter.unusedSimpArgs false
set_option maxRecDepth 100000
set_option maxHeartbeats 1000000
namespace Go.Proofs.Ytcnabolainmaeaa.Fw
open Go Go.Fw Go.Proofs
attribute [local irreducible] stepI
end Go.Proofs.Ytcnabolainmaeaa.Fw
namespace Go.Proofs.Ytcnabolainmaeaa.Fw
open Go Go.Fw
/-- One op's cells. -/
def OpQ (w : World) (vs : List Value) (k : Int) : Prop := ∃ (i j : Int) (x : El 16) (d : Value) (l : List (El 16)), vs = [.int .i64 k, .int .i64 i, .int .i64 j, .int .u16 (x.v.toNat : Int), d] ∧ Sl w d l ∧ l.length ≤ 70368744175616
theorem OpQ.up {w w' : World} {vs : List Value} {k : Int} (h : OpQ w vs k) (hB : RowKit.Below w.heap.size w w') : OpQ w' vs k := by
  obtain ⟨i, j, x, d, l, e, hs, hl⟩ := h
  exact ⟨i, j, x, d, l, e, hs.up hB, hl⟩
end Go.Proofs.Ytcnabolainmaeaa.Fw
