/-
  No cell of these rows narrows 'for every input' (looked for: loops, veiled, ifaces, maps, wideKeys, modest, calm, conditions, laid).
  DERIVED. THE GIVEN ROWS OF THIS SEAT. 9 by the template 'for every input the law returns true; each argument reads behind the call as it read before'; 0 by the template 'total and deterministic' (their statements: YtcnabolainmaeaaTotals.lean).
  GIVEN WITH THE SEED: the statements are not yours to turn. If you find one false, say at which input.
  Laid BY PROGRAM, IN A SANDBOX (cutbox-rows.mjs): the forced cells as the released guide's own fill.sh prints them over the translation 0def26197a587b2e… (all of the seat's roots in one cut). By AI agents, Wed Nov 11 2026. No macro, syntax, notation, axiom, sorry.
-/
import Derived.Test.YtcnabolainmaeaaChecked
import GoSem.Claim
import GoSem.ClaimJoined
import GoSem.ClaimMapViews
import Derived.JoinedTies
import Derived.KernelRfl
namespace Go.Proofs.Ytcnabolainmaeaa
/- THE CELL 'sum', in the pinned program and in every row, IS THE sha256 OF THE DUMP (.gsa) THAT YtcnabolainmaeaaProg.lean LOADS. Nothing in Lean hashes anything: it is a label: what it is worth is what the hold of that sum in a sandbox is worth. -/
noncomputable def Try.pinned : Pinned := { name := "ytcnabolainmaeaa", sum := "0def26197a587b2eb72fd6ef17a04e3aba4420b73b59a60b246363017a9a0644", checked := Try.checked }
namespace Rows
def none {H : Type} : Left H := { results := [], args := [] }

/-- 'culletlaw13.LchAdditive': WHATEVER THE INPUT: true; the input reads as it did. -/
def lchAdditiveSpec : ChangeSpec := { name := "lchAdditive", fn := fun _ => fun
  | [d1, d2, d3] => { results := [.lit (.bool true)], args := [d1, d2, d3] }
  | _ => none }
def lchAdditiveRow : OpenClaim := { program := "ytcnabolainmaeaa", sum := "0def26197a587b2eb72fd6ef17a04e3aba4420b73b59a60b246363017a9a0644", func := "cullet/culletlaw13.LchAdditive", spec := "lchAdditive", apart := false }
def LchAdditiveSaid : Prop := lchAdditiveRow.holds Try.pinned (OpenSpec.ofChange lchAdditiveSpec)

/-- ITS FALSE NEIGHBOUR: 'it returns false'. Refute it at one input. -/
def lchAdditiveWrong : ChangeSpec := { name := "lchAdditive", fn := fun _ => fun
  | [d1, d2, d3] => { results := [.lit (.bool false)], args := [d1, d2, d3] }
  | _ => none }
def LchAdditiveWrongFalsely : Prop := lchAdditiveRow.holds Try.pinned (OpenSpec.ofChange lchAdditiveWrong)

/-- 'culletlaw13.LchCantor': WHATEVER THE INPUT: true; the input reads as it did. -/
def lchCantorSpec : ChangeSpec := { name := "lchCantor", fn := fun _ => fun
  | [d1, d2] => { results := [.lit (.bool true)], args := [d1, d2] }
  | _ => none }
def lchCantorRow : OpenClaim := { program := "ytcnabolainmaeaa", sum := "0def26197a587b2eb72fd6ef17a04e3aba4420b73b59a60b246363017a9a0644", func := "cullet/culletlaw13.LchCantor", spec := "lchCantor", apart := false }
def LchCantorSaid : Prop := lchCantorRow.holds Try.pinned (OpenSpec.ofChange lchCantorSpec)

/-- ITS FALSE NEIGHBOUR: 'it returns false'. Refute it at one input. -/
def lchCantorWrong : ChangeSpec := { name := "lchCantor", fn := fun _ => fun
  | [d1, d2] => { results := [.lit (.bool false)], args := [d1, d2] }
  | _ => none }
def LchCantorWrongFalsely : Prop := lchCantorRow.holds Try.pinned (OpenSpec.ofChange lchCantorWrong)

/-- 'culletlaw13.LchDerives': WHATEVER THE INPUT: true; the input reads as it did. -/
def lchDerivesSpec : ChangeSpec := { name := "lchDerives", fn := fun _ => fun
  | [d] => { results := [.lit (.bool true)], args := [d] }
  | _ => none }
def lchDerivesRow : OpenClaim := { program := "ytcnabolainmaeaa", sum := "0def26197a587b2eb72fd6ef17a04e3aba4420b73b59a60b246363017a9a0644", func := "cullet/culletlaw13.LchDerives", spec := "lchDerives", unfollowed := true, recurses := true, apart := false }
def LchDerivesSaid : Prop := lchDerivesRow.holds Try.pinned (OpenSpec.ofChange lchDerivesSpec)

/-- ITS FALSE NEIGHBOUR: 'it returns false'. Refute it at one input. -/
def lchDerivesWrong : ChangeSpec := { name := "lchDerives", fn := fun _ => fun
  | [d] => { results := [.lit (.bool false)], args := [d] }
  | _ => none }
def LchDerivesWrongFalsely : Prop := lchDerivesRow.holds Try.pinned (OpenSpec.ofChange lchDerivesWrong)

/-- 'culletlaw13.LchNames': WHATEVER THE INPUT: true; the input reads as it did. -/
def lchNamesSpec : ChangeSpec := { name := "lchNames", fn := fun _ => fun
  | [] => { results := [.lit (.bool true)], args := [] }
  | _ => none }
def lchNamesRow : OpenClaim := { program := "ytcnabolainmaeaa", sum := "0def26197a587b2eb72fd6ef17a04e3aba4420b73b59a60b246363017a9a0644", func := "cullet/culletlaw13.LchNames", spec := "lchNames", unfollowed := true, recurses := true, apart := false }
def LchNamesSaid : Prop := lchNamesRow.holds Try.pinned (OpenSpec.ofChange lchNamesSpec)

/-- ITS FALSE NEIGHBOUR: 'it returns false'. Refute it at one input. -/
def lchNamesWrong : ChangeSpec := { name := "lchNames", fn := fun _ => fun
  | [] => { results := [.lit (.bool false)], args := [] }
  | _ => none }
def LchNamesWrongFalsely : Prop := lchNamesRow.holds Try.pinned (OpenSpec.ofChange lchNamesWrong)

/-- 'culletlaw13.LchMemory': WHATEVER THE INPUT: true; the input reads as it did. -/
def lchMemorySpec : ChangeSpec := { name := "lchMemory", fn := fun _ => fun
  | [d1, d2] => { results := [.lit (.bool true)], args := [d1, d2] }
  | _ => none }
def lchMemoryRow : OpenClaim := { program := "ytcnabolainmaeaa", sum := "0def26197a587b2eb72fd6ef17a04e3aba4420b73b59a60b246363017a9a0644", func := "cullet/culletlaw13.LchMemory", spec := "lchMemory", unfollowed := true, recurses := true, apart := false }
def LchMemorySaid : Prop := lchMemoryRow.holds Try.pinned (OpenSpec.ofChange lchMemorySpec)

/-- ITS FALSE NEIGHBOUR: 'it returns false'. Refute it at one input. -/
def lchMemoryWrong : ChangeSpec := { name := "lchMemory", fn := fun _ => fun
  | [d1, d2] => { results := [.lit (.bool false)], args := [d1, d2] }
  | _ => none }
def LchMemoryWrongFalsely : Prop := lchMemoryRow.holds Try.pinned (OpenSpec.ofChange lchMemoryWrong)

/-- 'culletlaw13.LchBack': WHATEVER THE INPUT: true; the input reads as it did. -/
def lchBackSpec : ChangeSpec := { name := "lchBack", fn := fun _ => fun
  | [d1, d2] => { results := [.lit (.bool true)], args := [d1, d2] }
  | _ => none }
def lchBackRow : OpenClaim := { program := "ytcnabolainmaeaa", sum := "0def26197a587b2eb72fd6ef17a04e3aba4420b73b59a60b246363017a9a0644", func := "cullet/culletlaw13.LchBack", spec := "lchBack", unfollowed := true, recurses := true, apart := false }
def LchBackSaid : Prop := lchBackRow.holds Try.pinned (OpenSpec.ofChange lchBackSpec)

/-- ITS FALSE NEIGHBOUR: 'it returns false'. Refute it at one input. -/
def lchBackWrong : ChangeSpec := { name := "lchBack", fn := fun _ => fun
  | [d1, d2] => { results := [.lit (.bool false)], args := [d1, d2] }
  | _ => none }
def LchBackWrongFalsely : Prop := lchBackRow.holds Try.pinned (OpenSpec.ofChange lchBackWrong)

/-- 'culletlaw13.LchValues': WHATEVER THE INPUT: true; the input reads as it did. -/
def lchValuesSpec : ChangeSpec := { name := "lchValues", fn := fun _ => fun
  | [d] => { results := [.lit (.bool true)], args := [d] }
  | _ => none }
def lchValuesRow : OpenClaim := { program := "ytcnabolainmaeaa", sum := "0def26197a587b2eb72fd6ef17a04e3aba4420b73b59a60b246363017a9a0644", func := "cullet/culletlaw13.LchValues", spec := "lchValues", unfollowed := true, recurses := true, apart := false }
def LchValuesSaid : Prop := lchValuesRow.holds Try.pinned (OpenSpec.ofChange lchValuesSpec)

/-- ITS FALSE NEIGHBOUR: 'it returns false'. Refute it at one input. -/
def lchValuesWrong : ChangeSpec := { name := "lchValues", fn := fun _ => fun
  | [d] => { results := [.lit (.bool false)], args := [d] }
  | _ => none }
def LchValuesWrongFalsely : Prop := lchValuesRow.holds Try.pinned (OpenSpec.ofChange lchValuesWrong)

/-- 'culletlaw13.LchLists': WHATEVER THE INPUT: true; the input reads as it did. -/
def lchListsSpec : ChangeSpec := { name := "lchLists", fn := fun _ => fun
  | [d] => { results := [.lit (.bool true)], args := [d] }
  | _ => none }
def lchListsRow : OpenClaim := { program := "ytcnabolainmaeaa", sum := "0def26197a587b2eb72fd6ef17a04e3aba4420b73b59a60b246363017a9a0644", func := "cullet/culletlaw13.LchLists", spec := "lchLists", unfollowed := true, recurses := true, apart := false }
def LchListsSaid : Prop := lchListsRow.holds Try.pinned (OpenSpec.ofChange lchListsSpec)

/-- ITS FALSE NEIGHBOUR: 'it returns false'. Refute it at one input. -/
def lchListsWrong : ChangeSpec := { name := "lchLists", fn := fun _ => fun
  | [d] => { results := [.lit (.bool false)], args := [d] }
  | _ => none }
def LchListsWrongFalsely : Prop := lchListsRow.holds Try.pinned (OpenSpec.ofChange lchListsWrong)

/-- 'culletlaw13.LchTurns': WHATEVER THE INPUT: true; the input reads as it did. -/
def lchTurnsSpec : ChangeSpec := { name := "lchTurns", fn := fun _ => fun
  | [d] => { results := [.lit (.bool true)], args := [d] }
  | _ => none }
def lchTurnsRow : OpenClaim := { program := "ytcnabolainmaeaa", sum := "0def26197a587b2eb72fd6ef17a04e3aba4420b73b59a60b246363017a9a0644", func := "cullet/culletlaw13.LchTurns", spec := "lchTurns", unfollowed := true, recurses := true, apart := false }
def LchTurnsSaid : Prop := lchTurnsRow.holds Try.pinned (OpenSpec.ofChange lchTurnsSpec)

/-- ITS FALSE NEIGHBOUR: 'it returns false'. Refute it at one input. -/
def lchTurnsWrong : ChangeSpec := { name := "lchTurns", fn := fun _ => fun
  | [d] => { results := [.lit (.bool false)], args := [d] }
  | _ => none }
def LchTurnsWrongFalsely : Prop := lchTurnsRow.holds Try.pinned (OpenSpec.ofChange lchTurnsWrong)

/- THE SECOND FORM. 'bulk': how many values and letters a reading holds, each counted each time it is reached (what is shared counts as often as it is met; a slice's spare places count too). A statement '..UptoSaid' is the law's where the arguments, and the package variables that the reading takes, are together of bulk at most 1048576: NARROWER than '..Said'. Prove '..Said' where nothing that the law and all that it calls make is longer than what came in: it says more and counts as full. Else prove '..UptoSaid'. A law counts once. -/
mutual
def uptoBulk {H : Type} : DataW H → Nat
  | .lit (.string bytes) => bytes.length + 1
  | .lit _ => 1
  | .nil => 1
  | .ptr d => uptoBulk d + 1
  | .slice elems spare => uptoBulkAll elems + uptoBulkAll spare + 1
  | .agg parts => uptoBulkAll parts + 1
  | .iface _ d => uptoBulk d + 1
  | .map entries => uptoBulkEntries entries + 1
  | .held _ => 1
def uptoBulkAll {H : Type} : List (DataW H) → Nat
  | [] => 0
  | d :: r => uptoBulk d + uptoBulkAll r
def uptoBulkEntries {H : Type} : List (Lit × DataW H) → Nat
  | [] => 0
  | x :: r => uptoBulkEntry x + uptoBulkEntries r
def uptoBulkEntry {H : Type} : Lit × DataW H → Nat
  | (.string bytes, d) => bytes.length + uptoBulk d + 1
  | (_, d) => uptoBulk d + 1
 end
def uptoSmall : (H : Type) → List (DataW H) → Bool := fun _ ds => decide (uptoBulkAll ds ≤ 1048576)
def OpenSpec.upto (s : _root_.Go.ChangeSpec) : _root_.Go.OpenSpec := { _root_.Go.OpenSpec.ofChange s with cond := some uptoSmall }

/-- 'culletlaw13.LchAdditive', WHERE WHAT IT READS IS OF BULK AT MOST 1048576: true; the input reads as it did. -/
def lchAdditiveUptoRow : OpenClaim := { program := "ytcnabolainmaeaa", sum := "0def26197a587b2eb72fd6ef17a04e3aba4420b73b59a60b246363017a9a0644", func := "cullet/culletlaw13.LchAdditive", spec := "lchAdditive", apart := false, narrowed := true }
def LchAdditiveUptoSaid : Prop := lchAdditiveUptoRow.holds Try.pinned (OpenSpec.upto lchAdditiveSpec)

/-- 'culletlaw13.LchCantor', WHERE WHAT IT READS IS OF BULK AT MOST 1048576: true; the input reads as it did. -/
def lchCantorUptoRow : OpenClaim := { program := "ytcnabolainmaeaa", sum := "0def26197a587b2eb72fd6ef17a04e3aba4420b73b59a60b246363017a9a0644", func := "cullet/culletlaw13.LchCantor", spec := "lchCantor", apart := false, narrowed := true }
def LchCantorUptoSaid : Prop := lchCantorUptoRow.holds Try.pinned (OpenSpec.upto lchCantorSpec)

/-- 'culletlaw13.LchDerives', WHERE WHAT IT READS IS OF BULK AT MOST 1048576: true; the input reads as it did. -/
def lchDerivesUptoRow : OpenClaim := { program := "ytcnabolainmaeaa", sum := "0def26197a587b2eb72fd6ef17a04e3aba4420b73b59a60b246363017a9a0644", func := "cullet/culletlaw13.LchDerives", spec := "lchDerives", unfollowed := true, recurses := true, apart := false, narrowed := true }
def LchDerivesUptoSaid : Prop := lchDerivesUptoRow.holds Try.pinned (OpenSpec.upto lchDerivesSpec)

/-- 'culletlaw13.LchNames', WHERE WHAT IT READS IS OF BULK AT MOST 1048576: true; the input reads as it did. -/
def lchNamesUptoRow : OpenClaim := { program := "ytcnabolainmaeaa", sum := "0def26197a587b2eb72fd6ef17a04e3aba4420b73b59a60b246363017a9a0644", func := "cullet/culletlaw13.LchNames", spec := "lchNames", unfollowed := true, recurses := true, apart := false, narrowed := true }
def LchNamesUptoSaid : Prop := lchNamesUptoRow.holds Try.pinned (OpenSpec.upto lchNamesSpec)

/-- 'culletlaw13.LchMemory', WHERE WHAT IT READS IS OF BULK AT MOST 1048576: true; the input reads as it did. -/
def lchMemoryUptoRow : OpenClaim := { program := "ytcnabolainmaeaa", sum := "0def26197a587b2eb72fd6ef17a04e3aba4420b73b59a60b246363017a9a0644", func := "cullet/culletlaw13.LchMemory", spec := "lchMemory", unfollowed := true, recurses := true, apart := false, narrowed := true }
def LchMemoryUptoSaid : Prop := lchMemoryUptoRow.holds Try.pinned (OpenSpec.upto lchMemorySpec)

/-- 'culletlaw13.LchBack', WHERE WHAT IT READS IS OF BULK AT MOST 1048576: true; the input reads as it did. -/
def lchBackUptoRow : OpenClaim := { program := "ytcnabolainmaeaa", sum := "0def26197a587b2eb72fd6ef17a04e3aba4420b73b59a60b246363017a9a0644", func := "cullet/culletlaw13.LchBack", spec := "lchBack", unfollowed := true, recurses := true, apart := false, narrowed := true }
def LchBackUptoSaid : Prop := lchBackUptoRow.holds Try.pinned (OpenSpec.upto lchBackSpec)

/-- 'culletlaw13.LchValues', WHERE WHAT IT READS IS OF BULK AT MOST 1048576: true; the input reads as it did. -/
def lchValuesUptoRow : OpenClaim := { program := "ytcnabolainmaeaa", sum := "0def26197a587b2eb72fd6ef17a04e3aba4420b73b59a60b246363017a9a0644", func := "cullet/culletlaw13.LchValues", spec := "lchValues", unfollowed := true, recurses := true, apart := false, narrowed := true }
def LchValuesUptoSaid : Prop := lchValuesUptoRow.holds Try.pinned (OpenSpec.upto lchValuesSpec)

/-- 'culletlaw13.LchLists', WHERE WHAT IT READS IS OF BULK AT MOST 1048576: true; the input reads as it did. -/
def lchListsUptoRow : OpenClaim := { program := "ytcnabolainmaeaa", sum := "0def26197a587b2eb72fd6ef17a04e3aba4420b73b59a60b246363017a9a0644", func := "cullet/culletlaw13.LchLists", spec := "lchLists", unfollowed := true, recurses := true, apart := false, narrowed := true }
def LchListsUptoSaid : Prop := lchListsUptoRow.holds Try.pinned (OpenSpec.upto lchListsSpec)

/-- 'culletlaw13.LchTurns', WHERE WHAT IT READS IS OF BULK AT MOST 1048576: true; the input reads as it did. -/
def lchTurnsUptoRow : OpenClaim := { program := "ytcnabolainmaeaa", sum := "0def26197a587b2eb72fd6ef17a04e3aba4420b73b59a60b246363017a9a0644", func := "cullet/culletlaw13.LchTurns", spec := "lchTurns", unfollowed := true, recurses := true, apart := false, narrowed := true }
def LchTurnsUptoSaid : Prop := lchTurnsUptoRow.holds Try.pinned (OpenSpec.upto lchTurnsSpec)

end Rows
end Go.Proofs.Ytcnabolainmaeaa
