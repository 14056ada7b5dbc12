import Derived.Test.YtbaljbadlfopgaaFwUW
import Derived.Test.YtbaljbadlfopgaaGfWW
set_option linter.all false
/- Rows of the call's own. -/
set_option linter.unusedVariables false
set_option linter.unusedSimpArgs false
namespace Go.Fw
open Go Go.RowKit
/-- What is known of rows in memory: the list of their headers stays; each row may be read and written. -/
structure Rws {α : Type} [Cell α] (M : List (List α) → World → Prop) (rows : Value) (hs : List Hd) : Prop where
  hd : ∀ R w, M R w → Sl w rows hs ∧ R.length = hs.length
  wr : ∀ (R : List (List α)) (i : Nat) (hi : i < hs.length), R.length = hs.length → Wr (fun x w => M (R.set i x) w) (Cell.v hs[i])
  up : ∀ R w w', M R w → Below w.heap.size w w' → M R w'
/-- No two rows in one block; the list of the rows in none of theirs. -/
structure Apart (rows : Value) (hs : List Hd) : Prop where
  two : ∀ i j (hi : i < hs.length) (hj : j < hs.length) b, i ≠ j → Fw.blk (Cell.v hs[i]) = some b → Fw.blk (Cell.v hs[j]) ≠ some b
  list : ∀ i (hi : i < hs.length) b, Fw.blk (Cell.v hs[i]) = some b → Fw.blk rows ≠ some b
end Go.Fw
