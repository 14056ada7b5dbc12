import Derived.Test.YtbaljbadlfopgaaProg
import Derived.Test.YtbaljbadlfopgaaFwTK
import Derived.Test.YtbaljbadlfopgaaSMgdK
import Derived.Test.YtbaljbadlfopgaaFwSgK
import Derived.Test.YtbaljbadlfopgaaSMh2K
set_option linter.all false
set_option linter.unusedVariables false
set_option linter.unusedSimpArgs false
set_option maxRecDepth 100000
set_option maxHeartbeats 1000000
namespace Go.Proofs.Ytbaljbadlfopgaa.Fw
open Go Go.Fw Go.Proofs
attribute [local irreducible] stepI
end Go.Proofs.Ytbaljbadlfopgaa.Fw
namespace Go.Proofs.Ytbaljbadlfopgaa.Fw
open Go Go.Fw
theorem nth_set {l : List (El 8)} {i : Nat} (h : i < l.length) (x : El 8) (j : Nat) : nth (l.set i x) j = if j = i then x else nth l j := by
  unfold nth
  rw [List.getD_eq_getElem?_getD, List.getD_eq_getElem?_getD, List.getElem?_set]
  by_cases e : i = j
  · subst e; rw [if_pos rfl, if_pos h, if_pos rfl]; rfl
  · rw [if_neg e, if_neg (fun e' => e e'.symm)]
theorem nth_rep (n : Nat) (j : Nat) : nth (List.replicate n (0 : El 8)) j = 0 := by
  unfold nth
  rw [List.getD_eq_getElem?_getD, List.getElem?_replicate]
  split <;> rfl
theorem seg_app {α : Type} [Cell α] {lo hi : Nat} {w w' : World} {s : Value} {l : List α} {r : Option Nat} (h : Seg lo hi w s l) (hl : l ≠ []) (hg : w.grownBy w' r) (hr : ∀ b, r = some b → hi ≤ b) : Seg lo hi w' s l := by
  obtain ⟨b, hb, -⟩ := h.sl.blk_lt hl
  exact ⟨h.own.grown hg (fun e => by have h1 := h.top b hb; have h2 := hr b (by rw [← e, hb]); omega), h.top⟩
theorem ne_nil_of {α : Type} {l : List α} {i : Nat} (h : i < l.length) : l ≠ [] := fun e => by rw [e] at h; exact absurd h (Nat.not_lt_zero _)
end Go.Proofs.Ytbaljbadlfopgaa.Fw

set_option linter.unusedVariables false
set_option linter.unusedSimpArgs false
set_option maxRecDepth 100000
set_option maxHeartbeats 1000000
namespace Go.Proofs.Ytbaljbadlfopgaa.Fw
open Go Go.Fw Go.Proofs
attribute [local irreducible] stepI
end Go.Proofs.Ytbaljbadlfopgaa.Fw
namespace Go.Proofs.Ytbaljbadlfopgaa.Fw
open Go Go.Fw
/-- The product of s + l over the l below. -/
def wpr (s : Nat) : Nat → El 8
  | 0 => 1
  | l + 1 => if l = s then wpr s l else wpr s l * (en8 s + en8 l)
/-- The weight of shard s. -/
def wt (f : Int) (k s : Nat) : El 8 := if f = 1 then wpr s k else 1
end Go.Proofs.Ytbaljbadlfopgaa.Fw
