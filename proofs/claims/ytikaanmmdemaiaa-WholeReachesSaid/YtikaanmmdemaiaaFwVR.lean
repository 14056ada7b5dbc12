/- Rows of the call's own. -/
import Derived.Test.YtikaanmmdemaiaaFwUR
import Derived.Test.YtikaanmmdemaiaaGfWR
set_option linter.all false
set_option linter.unusedVariables false
set_option linter.unusedSimpArgs false
namespace Go.Fw
open Go Go.RowKit
/-- What is known of rows in memory: the list of their headers stays; each row may be read and written. -/
structure Rws {α : Type} [Cell α] (M : List (List α) → World → Prop) (rows : Value) (hs : List Hd) : Prop where
  hd : ∀ R w, M R w → Sl w rows hs ∧ R.length = hs.length
  wr : ∀ (R : List (List α)) (i : Nat) (hi : i < hs.length), R.length = hs.length → Wr (fun x w => M (R.set i x) w) (Cell.v hs[i])
  up : ∀ R w w', M R w → Below w.heap.size w w' → M R w'
/-- No two rows in one block; the list of the rows in none of theirs. -/
structure Apart (rows : Value) (hs : List Hd) : Prop where
  two : ∀ i j (hi : i < hs.length) (hj : j < hs.length) b, i ≠ j → Fw.blk (Cell.v hs[i]) = some b → Fw.blk (Cell.v hs[j]) ≠ some b
  list : ∀ i (hi : i < hs.length) b, Fw.blk (Cell.v hs[i]) = some b → Fw.blk rows ≠ some b
/-- A list by its elements. -/
theorem list_co {n : Nat} [F : Fd n] {m : List (El n)} {k : Nat} {f : Nat → El n} (hl : m.length = k) (h : ∀ i, i < k → (co m).c i = f i) : m = (List.range k).map f := by
  refine co_ext (by simp [hl]) (Ps.ext fun i => ?_)
  by_cases hi : i < k
  · rw [h i hi, co_get _ (by simpa using hi)]; simp
  · rw [co_dg m i (by omega), co_dg _ i (by simp; omega)]
end Go.Fw
