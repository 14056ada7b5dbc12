import Derived.Test.YtbaljbadlfopgaaProg
import Derived.Test.YtbaljbadlfopgaaFwTL
import Derived.Test.YtbaljbadlfopgaaSMvL
import Derived.Test.YtbaljbadlfopgaaGfXL
import Derived.Test.YtbaljbadlfopgaaFwMpL
set_option linter.all false
set_option linter.unusedVariables false
set_option linter.unusedSimpArgs false
set_option maxRecDepth 100000
set_option maxHeartbeats 1000000
namespace Go.Proofs.Ytbaljbadlfopgaa.Fw
open Go Go.Fw Go.Proofs
attribute [local irreducible] stepI
end Go.Proofs.Ytbaljbadlfopgaa.Fw
namespace Go.Proofs.Ytbaljbadlfopgaa.Fw
open Go Go.Fw
theorem Inv_w.call {w : World} {v : Value} (h : Inv_w w v) (x : El 16) (hx : x ≠ 0) {K : Value → World → Prop} (hk : ∀ w', Like w w' → K (.tuple #[.int .u16 (x.inv.v.toNat : Int), .int .i64 0]) w') : callK Try.prog v [.int .u16 (x.v.toNat : Int)] w K := by
  obtain rfl := h
  refine (gf16_Inv_spec w x hx).mono ?_
  rintro _ _ ⟨rfl, rfl⟩
  exact hk _ (Like.refl _)
theorem Inv_b.call {w : World} {v : Value} (h : Inv_b w v) (x : El 8) (hx : x ≠ 0) {K : Value → World → Prop} (hk : ∀ w', Like w w' → K (.tuple #[.int .u8 (x.inv.v.toNat : Int), .int .i64 0]) w') : callK Try.prog v [.int .u8 (x.v.toNat : Int)] w K := by
  obtain ⟨p, rfl, ht⟩ := h
  refine (gf8_Tables_Inv_spec w p ht x hx).mono ?_
  rintro _ _ ⟨rfl, hl⟩
  exact hk _ hl
end Go.Proofs.Ytbaljbadlfopgaa.Fw

namespace Go.Proofs.Ytbaljbadlfopgaa.Fw
open Go Go.Fw
end Go.Proofs.Ytbaljbadlfopgaa.Fw

namespace Go.Proofs.Ytbaljbadlfopgaa.Fw
open Go Go.Fw
end Go.Proofs.Ytbaljbadlfopgaa.Fw
