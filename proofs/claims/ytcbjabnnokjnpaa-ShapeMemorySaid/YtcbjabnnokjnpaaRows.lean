/-
  No cell of these rows narrows 'for every input' (looked for: loops, veiled, ifaces, maps, wideKeys, modest, calm, conditions, laid).
  DERIVED. THE GIVEN ROWS OF THIS SEAT. 9 by the template 'for every input the law returns true; each argument reads behind the call as it read before'; 0 by the template 'total and deterministic' (their statements: YtcbjabnnokjnpaaTotals.lean).
  GIVEN WITH THE SEED: the statements are not yours to turn. If you find one false, say at which input.
  Laid BY PROGRAM, IN A SANDBOX (cutbox-rows.mjs): the forced cells as the released guide's own fill.sh prints them over the translation 2e3139bb244265f8… (all of the seat's roots in one cut). By AI agents, Wed Nov 11 2026. No macro, syntax, notation, axiom, sorry.
-/
import Derived.Test.YtcbjabnnokjnpaaChecked
import GoSem.Claim
import GoSem.ClaimJoined
import GoSem.ClaimMapViews
import Derived.JoinedTies
import Derived.KernelRfl
namespace Go.Proofs.Ytcbjabnnokjnpaa
/- THE CELL 'sum', in the pinned program and in every row, IS THE sha256 OF THE DUMP (.gsa) THAT YtcbjabnnokjnpaaProg.lean LOADS. Nothing in Lean hashes anything: it is a label: what it is worth is what the hold of that sum in a sandbox is worth. -/
noncomputable def Try.pinned : Pinned := { name := "ytcbjabnnokjnpaa", sum := "2e3139bb244265f86c90186a361f4a5f33b7d63e95afafd9ffa9ee7d2f90102c", checked := Try.checked }
namespace Rows
def none {H : Type} : Left H := { results := [], args := [] }

/-- 'culletlaw16.ShapeNames': WHATEVER THE INPUT: true; the input reads as it did. -/
def shapeNamesSpec : ChangeSpec := { name := "shapeNames", fn := fun _ => fun
  | [] => { results := [.lit (.bool true)], args := [] }
  | _ => none }
def shapeNamesRow : OpenClaim := { program := "ytcbjabnnokjnpaa", sum := "2e3139bb244265f86c90186a361f4a5f33b7d63e95afafd9ffa9ee7d2f90102c", func := "cullet/culletlaw16.ShapeNames", spec := "shapeNames", apart := false }
def ShapeNamesSaid : Prop := shapeNamesRow.holds Try.pinned (OpenSpec.ofChange shapeNamesSpec)

/-- ITS FALSE NEIGHBOUR: 'it returns false'. Refute it at one input. -/
def shapeNamesWrong : ChangeSpec := { name := "shapeNames", fn := fun _ => fun
  | [] => { results := [.lit (.bool false)], args := [] }
  | _ => none }
def ShapeNamesWrongFalsely : Prop := shapeNamesRow.holds Try.pinned (OpenSpec.ofChange shapeNamesWrong)

/-- 'culletlaw16.ShapeLimits': WHATEVER THE INPUT: true; the input reads as it did. -/
def shapeLimitsSpec : ChangeSpec := { name := "shapeLimits", fn := fun _ => fun
  | [d1, d2, d3] => { results := [.lit (.bool true)], args := [d1, d2, d3] }
  | _ => none }
def shapeLimitsRow : OpenClaim := { program := "ytcbjabnnokjnpaa", sum := "2e3139bb244265f86c90186a361f4a5f33b7d63e95afafd9ffa9ee7d2f90102c", func := "cullet/culletlaw16.ShapeLimits", spec := "shapeLimits", apart := false }
def ShapeLimitsSaid : Prop := shapeLimitsRow.holds Try.pinned (OpenSpec.ofChange shapeLimitsSpec)

/-- ITS FALSE NEIGHBOUR: 'it returns false'. Refute it at one input. -/
def shapeLimitsWrong : ChangeSpec := { name := "shapeLimits", fn := fun _ => fun
  | [d1, d2, d3] => { results := [.lit (.bool false)], args := [d1, d2, d3] }
  | _ => none }
def ShapeLimitsWrongFalsely : Prop := shapeLimitsRow.holds Try.pinned (OpenSpec.ofChange shapeLimitsWrong)

/-- 'culletlaw16.ShapeLeast': WHATEVER THE INPUT: true; the input reads as it did. -/
def shapeLeastSpec : ChangeSpec := { name := "shapeLeast", fn := fun _ => fun
  | [d1, d2] => { results := [.lit (.bool true)], args := [d1, d2] }
  | _ => none }
def shapeLeastRow : OpenClaim := { program := "ytcbjabnnokjnpaa", sum := "2e3139bb244265f86c90186a361f4a5f33b7d63e95afafd9ffa9ee7d2f90102c", func := "cullet/culletlaw16.ShapeLeast", spec := "shapeLeast", apart := false }
def ShapeLeastSaid : Prop := shapeLeastRow.holds Try.pinned (OpenSpec.ofChange shapeLeastSpec)

/-- ITS FALSE NEIGHBOUR: 'it returns false'. Refute it at one input. -/
def shapeLeastWrong : ChangeSpec := { name := "shapeLeast", fn := fun _ => fun
  | [d1, d2] => { results := [.lit (.bool false)], args := [d1, d2] }
  | _ => none }
def ShapeLeastWrongFalsely : Prop := shapeLeastRow.holds Try.pinned (OpenSpec.ofChange shapeLeastWrong)

/-- 'culletlaw16.ShapeBack': WHATEVER THE INPUT: true; the input reads as it did. -/
def shapeBackSpec : ChangeSpec := { name := "shapeBack", fn := fun _ => fun
  | [d1, d2] => { results := [.lit (.bool true)], args := [d1, d2] }
  | _ => none }
def shapeBackRow : OpenClaim := { program := "ytcbjabnnokjnpaa", sum := "2e3139bb244265f86c90186a361f4a5f33b7d63e95afafd9ffa9ee7d2f90102c", func := "cullet/culletlaw16.ShapeBack", spec := "shapeBack", apart := false }
def ShapeBackSaid : Prop := shapeBackRow.holds Try.pinned (OpenSpec.ofChange shapeBackSpec)

/-- ITS FALSE NEIGHBOUR: 'it returns false'. Refute it at one input. -/
def shapeBackWrong : ChangeSpec := { name := "shapeBack", fn := fun _ => fun
  | [d1, d2] => { results := [.lit (.bool false)], args := [d1, d2] }
  | _ => none }
def ShapeBackWrongFalsely : Prop := shapeBackRow.holds Try.pinned (OpenSpec.ofChange shapeBackWrong)

/-- 'culletlaw16.ShapeMemory': WHATEVER THE INPUT: true; the input reads as it did. -/
def shapeMemorySpec : ChangeSpec := { name := "shapeMemory", fn := fun _ => fun
  | [d1, d2] => { results := [.lit (.bool true)], args := [d1, d2] }
  | _ => none }
def shapeMemoryRow : OpenClaim := { program := "ytcbjabnnokjnpaa", sum := "2e3139bb244265f86c90186a361f4a5f33b7d63e95afafd9ffa9ee7d2f90102c", func := "cullet/culletlaw16.ShapeMemory", spec := "shapeMemory", apart := false }
def ShapeMemorySaid : Prop := shapeMemoryRow.holds Try.pinned (OpenSpec.ofChange shapeMemorySpec)

/-- ITS FALSE NEIGHBOUR: 'it returns false'. Refute it at one input. -/
def shapeMemoryWrong : ChangeSpec := { name := "shapeMemory", fn := fun _ => fun
  | [d1, d2] => { results := [.lit (.bool false)], args := [d1, d2] }
  | _ => none }
def ShapeMemoryWrongFalsely : Prop := shapeMemoryRow.holds Try.pinned (OpenSpec.ofChange shapeMemoryWrong)

/-- 'culletlaw16.ShapeTurned': WHATEVER THE INPUT: true; the input reads as it did. -/
def shapeTurnedSpec : ChangeSpec := { name := "shapeTurned", fn := fun _ => fun
  | [d] => { results := [.lit (.bool true)], args := [d] }
  | _ => none }
def shapeTurnedRow : OpenClaim := { program := "ytcbjabnnokjnpaa", sum := "2e3139bb244265f86c90186a361f4a5f33b7d63e95afafd9ffa9ee7d2f90102c", func := "cullet/culletlaw16.ShapeTurned", spec := "shapeTurned", apart := false }
def ShapeTurnedSaid : Prop := shapeTurnedRow.holds Try.pinned (OpenSpec.ofChange shapeTurnedSpec)

/-- ITS FALSE NEIGHBOUR: 'it returns false'. Refute it at one input. -/
def shapeTurnedWrong : ChangeSpec := { name := "shapeTurned", fn := fun _ => fun
  | [d] => { results := [.lit (.bool false)], args := [d] }
  | _ => none }
def ShapeTurnedWrongFalsely : Prop := shapeTurnedRow.holds Try.pinned (OpenSpec.ofChange shapeTurnedWrong)

/-- 'culletlaw16.ShapeNumbers': WHATEVER THE INPUT: true; the input reads as it did. -/
def shapeNumbersSpec : ChangeSpec := { name := "shapeNumbers", fn := fun _ => fun
  | [d] => { results := [.lit (.bool true)], args := [d] }
  | _ => none }
def shapeNumbersRow : OpenClaim := { program := "ytcbjabnnokjnpaa", sum := "2e3139bb244265f86c90186a361f4a5f33b7d63e95afafd9ffa9ee7d2f90102c", func := "cullet/culletlaw16.ShapeNumbers", spec := "shapeNumbers", apart := false }
def ShapeNumbersSaid : Prop := shapeNumbersRow.holds Try.pinned (OpenSpec.ofChange shapeNumbersSpec)

/-- ITS FALSE NEIGHBOUR: 'it returns false'. Refute it at one input. -/
def shapeNumbersWrong : ChangeSpec := { name := "shapeNumbers", fn := fun _ => fun
  | [d] => { results := [.lit (.bool false)], args := [d] }
  | _ => none }
def ShapeNumbersWrongFalsely : Prop := shapeNumbersRow.holds Try.pinned (OpenSpec.ofChange shapeNumbersWrong)

/-- 'culletlaw16.ShapeTables': WHATEVER THE INPUT: true; the input reads as it did. -/
def shapeTablesSpec : ChangeSpec := { name := "shapeTables", fn := fun _ => fun
  | [d] => { results := [.lit (.bool true)], args := [d] }
  | _ => none }
def shapeTablesRow : OpenClaim := { program := "ytcbjabnnokjnpaa", sum := "2e3139bb244265f86c90186a361f4a5f33b7d63e95afafd9ffa9ee7d2f90102c", func := "cullet/culletlaw16.ShapeTables", spec := "shapeTables", apart := false }
def ShapeTablesSaid : Prop := shapeTablesRow.holds Try.pinned (OpenSpec.ofChange shapeTablesSpec)

/-- ITS FALSE NEIGHBOUR: 'it returns false'. Refute it at one input. -/
def shapeTablesWrong : ChangeSpec := { name := "shapeTables", fn := fun _ => fun
  | [d] => { results := [.lit (.bool false)], args := [d] }
  | _ => none }
def ShapeTablesWrongFalsely : Prop := shapeTablesRow.holds Try.pinned (OpenSpec.ofChange shapeTablesWrong)

/-- 'culletlaw16.ShapeMoves': WHATEVER THE INPUT: true; the input reads as it did. -/
def shapeMovesSpec : ChangeSpec := { name := "shapeMoves", fn := fun _ => fun
  | [d] => { results := [.lit (.bool true)], args := [d] }
  | _ => none }
def shapeMovesRow : OpenClaim := { program := "ytcbjabnnokjnpaa", sum := "2e3139bb244265f86c90186a361f4a5f33b7d63e95afafd9ffa9ee7d2f90102c", func := "cullet/culletlaw16.ShapeMoves", spec := "shapeMoves", apart := false }
def ShapeMovesSaid : Prop := shapeMovesRow.holds Try.pinned (OpenSpec.ofChange shapeMovesSpec)

/-- ITS FALSE NEIGHBOUR: 'it returns false'. Refute it at one input. -/
def shapeMovesWrong : ChangeSpec := { name := "shapeMoves", fn := fun _ => fun
  | [d] => { results := [.lit (.bool false)], args := [d] }
  | _ => none }
def ShapeMovesWrongFalsely : Prop := shapeMovesRow.holds Try.pinned (OpenSpec.ofChange shapeMovesWrong)

/- THE SECOND FORM. 'bulk': how many values and letters a reading holds, each counted each time it is reached (what is shared counts as often as it is met; a slice's spare places count too). A statement '..UptoSaid' is the law's where the arguments, and the package variables that the reading takes, are together of bulk at most 1048576: NARROWER than '..Said'. Prove '..Said' where nothing that the law and all that it calls make is longer than what came in: it says more and counts as full. Else prove '..UptoSaid'. A law counts once. -/
mutual
def uptoBulk {H : Type} : DataW H → Nat
  | .lit (.string bytes) => bytes.length + 1
  | .lit _ => 1
  | .nil => 1
  | .ptr d => uptoBulk d + 1
  | .slice elems spare => uptoBulkAll elems + uptoBulkAll spare + 1
  | .agg parts => uptoBulkAll parts + 1
  | .iface _ d => uptoBulk d + 1
  | .map entries => uptoBulkEntries entries + 1
  | .held _ => 1
def uptoBulkAll {H : Type} : List (DataW H) → Nat
  | [] => 0
  | d :: r => uptoBulk d + uptoBulkAll r
def uptoBulkEntries {H : Type} : List (Lit × DataW H) → Nat
  | [] => 0
  | x :: r => uptoBulkEntry x + uptoBulkEntries r
def uptoBulkEntry {H : Type} : Lit × DataW H → Nat
  | (.string bytes, d) => bytes.length + uptoBulk d + 1
  | (_, d) => uptoBulk d + 1
 end
def uptoSmall : (H : Type) → List (DataW H) → Bool := fun _ ds => decide (uptoBulkAll ds ≤ 1048576)
def OpenSpec.upto (s : _root_.Go.ChangeSpec) : _root_.Go.OpenSpec := { _root_.Go.OpenSpec.ofChange s with cond := some uptoSmall }

/-- 'culletlaw16.ShapeNames', WHERE WHAT IT READS IS OF BULK AT MOST 1048576: true; the input reads as it did. -/
def shapeNamesUptoRow : OpenClaim := { program := "ytcbjabnnokjnpaa", sum := "2e3139bb244265f86c90186a361f4a5f33b7d63e95afafd9ffa9ee7d2f90102c", func := "cullet/culletlaw16.ShapeNames", spec := "shapeNames", apart := false, narrowed := true }
def ShapeNamesUptoSaid : Prop := shapeNamesUptoRow.holds Try.pinned (OpenSpec.upto shapeNamesSpec)

/-- 'culletlaw16.ShapeLimits', WHERE WHAT IT READS IS OF BULK AT MOST 1048576: true; the input reads as it did. -/
def shapeLimitsUptoRow : OpenClaim := { program := "ytcbjabnnokjnpaa", sum := "2e3139bb244265f86c90186a361f4a5f33b7d63e95afafd9ffa9ee7d2f90102c", func := "cullet/culletlaw16.ShapeLimits", spec := "shapeLimits", apart := false, narrowed := true }
def ShapeLimitsUptoSaid : Prop := shapeLimitsUptoRow.holds Try.pinned (OpenSpec.upto shapeLimitsSpec)

/-- 'culletlaw16.ShapeLeast', WHERE WHAT IT READS IS OF BULK AT MOST 1048576: true; the input reads as it did. -/
def shapeLeastUptoRow : OpenClaim := { program := "ytcbjabnnokjnpaa", sum := "2e3139bb244265f86c90186a361f4a5f33b7d63e95afafd9ffa9ee7d2f90102c", func := "cullet/culletlaw16.ShapeLeast", spec := "shapeLeast", apart := false, narrowed := true }
def ShapeLeastUptoSaid : Prop := shapeLeastUptoRow.holds Try.pinned (OpenSpec.upto shapeLeastSpec)

/-- 'culletlaw16.ShapeBack', WHERE WHAT IT READS IS OF BULK AT MOST 1048576: true; the input reads as it did. -/
def shapeBackUptoRow : OpenClaim := { program := "ytcbjabnnokjnpaa", sum := "2e3139bb244265f86c90186a361f4a5f33b7d63e95afafd9ffa9ee7d2f90102c", func := "cullet/culletlaw16.ShapeBack", spec := "shapeBack", apart := false, narrowed := true }
def ShapeBackUptoSaid : Prop := shapeBackUptoRow.holds Try.pinned (OpenSpec.upto shapeBackSpec)

/-- 'culletlaw16.ShapeMemory', WHERE WHAT IT READS IS OF BULK AT MOST 1048576: true; the input reads as it did. -/
def shapeMemoryUptoRow : OpenClaim := { program := "ytcbjabnnokjnpaa", sum := "2e3139bb244265f86c90186a361f4a5f33b7d63e95afafd9ffa9ee7d2f90102c", func := "cullet/culletlaw16.ShapeMemory", spec := "shapeMemory", apart := false, narrowed := true }
def ShapeMemoryUptoSaid : Prop := shapeMemoryUptoRow.holds Try.pinned (OpenSpec.upto shapeMemorySpec)

/-- 'culletlaw16.ShapeTurned', WHERE WHAT IT READS IS OF BULK AT MOST 1048576: true; the input reads as it did. -/
def shapeTurnedUptoRow : OpenClaim := { program := "ytcbjabnnokjnpaa", sum := "2e3139bb244265f86c90186a361f4a5f33b7d63e95afafd9ffa9ee7d2f90102c", func := "cullet/culletlaw16.ShapeTurned", spec := "shapeTurned", apart := false, narrowed := true }
def ShapeTurnedUptoSaid : Prop := shapeTurnedUptoRow.holds Try.pinned (OpenSpec.upto shapeTurnedSpec)

/-- 'culletlaw16.ShapeNumbers', WHERE WHAT IT READS IS OF BULK AT MOST 1048576: true; the input reads as it did. -/
def shapeNumbersUptoRow : OpenClaim := { program := "ytcbjabnnokjnpaa", sum := "2e3139bb244265f86c90186a361f4a5f33b7d63e95afafd9ffa9ee7d2f90102c", func := "cullet/culletlaw16.ShapeNumbers", spec := "shapeNumbers", apart := false, narrowed := true }
def ShapeNumbersUptoSaid : Prop := shapeNumbersUptoRow.holds Try.pinned (OpenSpec.upto shapeNumbersSpec)

/-- 'culletlaw16.ShapeTables', WHERE WHAT IT READS IS OF BULK AT MOST 1048576: true; the input reads as it did. -/
def shapeTablesUptoRow : OpenClaim := { program := "ytcbjabnnokjnpaa", sum := "2e3139bb244265f86c90186a361f4a5f33b7d63e95afafd9ffa9ee7d2f90102c", func := "cullet/culletlaw16.ShapeTables", spec := "shapeTables", apart := false, narrowed := true }
def ShapeTablesUptoSaid : Prop := shapeTablesUptoRow.holds Try.pinned (OpenSpec.upto shapeTablesSpec)

/-- 'culletlaw16.ShapeMoves', WHERE WHAT IT READS IS OF BULK AT MOST 1048576: true; the input reads as it did. -/
def shapeMovesUptoRow : OpenClaim := { program := "ytcbjabnnokjnpaa", sum := "2e3139bb244265f86c90186a361f4a5f33b7d63e95afafd9ffa9ee7d2f90102c", func := "cullet/culletlaw16.ShapeMoves", spec := "shapeMoves", apart := false, narrowed := true }
def ShapeMovesUptoSaid : Prop := shapeMovesUptoRow.holds Try.pinned (OpenSpec.upto shapeMovesSpec)

end Rows
end Go.Proofs.Ytcbjabnnokjnpaa
