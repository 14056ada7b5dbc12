import Derived.Test.YtbaljbadlfopgaaProg
import Derived.Test.YtbaljbadlfopgaaFwTK
import Derived.Test.YtbaljbadlfopgaaSMwkK
import Derived.Test.YtbaljbadlfopgaaFwShK
import Derived.Test.YtbaljbadlfopgaaSMawkK
set_option linter.all false
set_option linter.unusedVariables false
set_option linter.unusedSimpArgs false
set_option maxRecDepth 100000
set_option maxHeartbeats 1000000
namespace Go.Proofs.Ytbaljbadlfopgaa.Fw
open Go Go.Fw Go.Proofs
attribute [local irreducible] stepI
end Go.Proofs.Ytbaljbadlfopgaa.Fw
namespace Go.Proofs.Ytbaljbadlfopgaa.Fw
open Go Go.Fw
section
variable {B : Nat} {w w' : World} {f : Int} {k : Nat} {L : Nat → Nat} {n : Nat} {R : Nat → List (El 8)} {CL : List Hd} {G : Nat → List (El 8)} {N : Nat}
theorem Ent.gr (h : Ent B w f k L n R CL G N) {c : Nat} (hg : w.grownBy w' (some c)) (hc : c < B) : Ent B w' f k L n R CL G N := fun t ht => by
  obtain ⟨h1, h2, h3⟩ := h t ht
  exact ⟨h1, h2.gr' hg fun x hx e => by cases hx; have := (h2.blk _ e).1; omega, h3.gr' hg fun x hx e => by cases hx; have := (h3.blk _ e).1; omega⟩
end
end Go.Proofs.Ytbaljbadlfopgaa.Fw

set_option linter.unusedVariables false
set_option linter.unusedSimpArgs false
set_option maxRecDepth 100000
set_option maxHeartbeats 1000000
namespace Go.Proofs.Ytbaljbadlfopgaa.Fw
open Go Go.Fw Go.Proofs
attribute [local irreducible] stepI
end Go.Proofs.Ytbaljbadlfopgaa.Fw
namespace Go.Proofs.Ytbaljbadlfopgaa.Fw
open Go Go.Fw
end Go.Proofs.Ytbaljbadlfopgaa.Fw

/- Lagrange's form, over any points. -/
set_option linter.unusedVariables false
set_option linter.unusedSimpArgs false
namespace Go.Fw
open Go
section
variable {n : Nat} [F : Fd n]
def gsum : Nat → (Nat → El n) → El n
  | 0, _ => 0
  | k + 1, g => gsum k g + g k
theorem gsum_congr {f g : Nat → El n} : ∀ {k : Nat}, (∀ i, i < k → f i = g i) → gsum k f = gsum k g
  | 0, _ => rfl
  | k + 1, h => by show gsum k f + f k = gsum k g + g k; rw [gsum_congr fun i hi => h i (by omega), h k (by omega)]
theorem gsum_mul (c : El n) (f : Nat → El n) : ∀ k, gsum k (fun i => c * f i) = c * gsum k f
  | 0 => (El.mul_zero c).symm
  | k + 1 => by show gsum k _ + c * f k = c * (gsum k f + f k); rw [gsum_mul c f k, El.mul_add]
theorem gsum_one {f : Nat → El n} {k j : Nat} (hj : j < k) (h : ∀ i, i < k → i ≠ j → f i = 0) : gsum k f = f j := by
  induction k with
  | zero => omega
  | succ k ih =>
    show gsum k f + f k = f j
    by_cases e : j = k
    · subst e
      have : ∀ m, m ≤ j → gsum m f = 0 := fun m => by
        induction m with
        | zero => intro _; rfl
        | succ m ih2 => intro hm; show gsum m f + f m = 0; rw [ih2 (by omega), h m (by omega) (by omega), El.add_zero]
      rw [this j (Nat.le_refl _), El.zero_add]
    · rw [ih (by omega) fun i hi hij => h i (by omega) hij, h k (by omega) (fun e' => e e'.symm), El.add_zero]
end
end Go.Fw

set_option linter.unusedVariables false
set_option linter.unusedSimpArgs false
set_option maxRecDepth 100000
set_option maxHeartbeats 1000000
namespace Go.Proofs.Ytbaljbadlfopgaa.Fw
open Go Go.Fw Go.Proofs
attribute [local irreducible] stepI
end Go.Proofs.Ytbaljbadlfopgaa.Fw
namespace Go.Proofs.Ytbaljbadlfopgaa.Fw
open Go Go.Fw
end Go.Proofs.Ytbaljbadlfopgaa.Fw

set_option linter.unusedVariables false
set_option linter.unusedSimpArgs false
set_option maxRecDepth 100000
set_option maxHeartbeats 1000000
namespace Go.Proofs.Ytbaljbadlfopgaa.Fw
open Go Go.Fw Go.Proofs
attribute [local irreducible] stepI

end Go.Proofs.Ytbaljbadlfopgaa.Fw
namespace Go.Proofs.Ytbaljbadlfopgaa.Fw
open Go Go.Fw
instance : Std.Associative (α := El 8) (· * ·) := ⟨El.mul_assoc⟩
instance : Std.Commutative (α := El 8) (· * ·) := ⟨El.mul_comm⟩
end Go.Proofs.Ytbaljbadlfopgaa.Fw
