import Derived.Test.YtbaljbadlfopgaaProg
import Derived.Test.YtbaljbadlfopgaaFwTN
import Derived.Test.YtbaljbadlfopgaaSMrfN
import Derived.Test.YtbaljbadlfopgaaGfWN
set_option linter.all false
set_option linter.unusedVariables false
set_option linter.unusedSimpArgs false
set_option maxRecDepth 100000
set_option maxHeartbeats 1000000
namespace Go.Proofs.Ytbaljbadlfopgaa.Fw
open Go Go.Fw Go.Proofs
attribute [local irreducible] stepI
end Go.Proofs.Ytbaljbadlfopgaa.Fw
namespace Go.Proofs.Ytbaljbadlfopgaa.Fw
open Go Go.Fw
theorem asc_dist {P : List Int} {xs : List (El 8)} (h : asc P P.length) (hl : xs.length = P.length) (hv : ∀ i (hi : i < xs.length) (hi' : i < P.length), ((xs[i].v.toNat : Nat) : Int) = P[i]) : ∀ a b, a < xs.length → b < xs.length → nth xs a = nth xs b → a = b := fun a b ha hb e => by
  rw [nth_get ha, nth_get hb] at e
  have e1 := hv a ha (by omega)
  have e2 := hv b hb (by omega)
  rw [e] at e1
  rcases Nat.lt_trichotomy a b with h1 | h1 | h1
  · have := (h b (by omega) (by omega)).2.2 a (by omega) h1
    omega
  · exact h1
  · have := (h a (by omega) (by omega)).2.2 b (by omega) h1
    omega
end Go.Proofs.Ytbaljbadlfopgaa.Fw
