import Derived.Test.YtcnabolainmaeaaProg
import Derived.Test.YtcnabolainmaeaaFwTL
import Derived.Test.YtcnabolainmaeaaSS13sL
import Derived.Test.YtcnabolainmaeaaFwVL
import Derived.Test.YtcnabolainmaeaaGfLL
import Derived.Test.YtcnabolainmaeaaGfNL
import Derived.Test.YtcnabolainmaeaaGfSL
set_option linter.all false
set_option linter.unusedVariables false
set_option linter.unusedSimpArgs false
set_option maxRecDepth 100000
set_option maxHeartbeats 1000000
namespace Go.Proofs.Ytcnabolainmaeaa.Fw
open Go Go.Fw Go.Proofs
attribute [local irreducible] stepI
end Go.Proofs.Ytcnabolainmaeaa.Fw
namespace Go.Proofs.Ytcnabolainmaeaa.Fw
open Go Go.Fw
/-- The ring's two functions. -/
def Mul_w (w : World) (v : Value) : Prop := v = .func (.func 15) #[] #[]
def Inv_w (w : World) (v : Value) : Prop := v = .func (.func 36) #[] #[]
def Ring_w (w : World) (r : Value) : Prop := ∃ b mv iv, r = .pointer (some ⟨b, 0, none⟩) ∧ Row w b [mv, iv] ∧ Mul_w w mv ∧ Inv_w w iv
theorem Ring_w.up {w w' : World} {r : Value} (h : Ring_w w r) (hb : RowKit.Below w.heap.size w w') : Ring_w w' r := by
  obtain ⟨b, mv, iv, h1, h2, h3, h4⟩ := h
  exact ⟨b, mv, iv, h1, h2.up hb, h3, h4⟩
theorem Ring_w.drew {w : World} {r : Value} (h : Ring_w w r) : Ring_w w.drew r := h.up (bel_drew w)
theorem Mul_w.call {w : World} {v : Value} (h : Mul_w w v) (x y : El 16) {K : Value → World → Prop} (hk : ∀ w', Like w w' → K (.int .u16 ((x * y).v.toNat : Int)) w') : callK Try.prog v [.int .u16 (x.v.toNat : Int), .int .u16 (y.v.toNat : Int)] w K := by
  obtain rfl := h
  refine (gf16_Mul_spec w x y).mono ?_
  rintro _ _ ⟨rfl, rfl⟩
  exact hk _ (Like.refl _)
end Go.Proofs.Ytcnabolainmaeaa.Fw

namespace Go.Proofs.Ytcnabolainmaeaa.Fw
open Go Go.Fw
end Go.Proofs.Ytcnabolainmaeaa.Fw

namespace Go.Proofs.Ytcnabolainmaeaa.Fw
open Go Go.Fw
end Go.Proofs.Ytcnabolainmaeaa.Fw

namespace Go.Proofs.Ytcnabolainmaeaa.Fw
open Go Go.Fw
end Go.Proofs.Ytcnabolainmaeaa.Fw
