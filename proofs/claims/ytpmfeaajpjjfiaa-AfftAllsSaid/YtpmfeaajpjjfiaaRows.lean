/-
  No cell of these rows narrows 'for every input' (looked for: loops, veiled, ifaces, maps, wideKeys, modest, calm, conditions, laid).
  DERIVED. THE GIVEN ROWS OF THIS SEAT. 11 by the template 'for every input the law returns true; each argument reads behind the call as it read before'; 0 by the template 'total and deterministic' (their statements: YtpmfeaajpjjfiaaTotals.lean).
  GIVEN WITH THE SEED: the statements are not yours to turn. If you find one false, say at which input.
  Laid BY PROGRAM, IN A SANDBOX (cutbox-rows.mjs): the forced cells as the released guide's own fill.sh prints them over the translation 5283239602d92f02… (all of the seat's roots in one cut). By AI agents, Wed Nov 11 2026. No macro, syntax, notation, axiom, sorry.
-/
import Derived.Test.YtpmfeaajpjjfiaaChecked
import GoSem.Claim
import GoSem.ClaimJoined
import GoSem.ClaimMapViews
import Derived.JoinedTies
import Derived.KernelRfl
namespace Go.Proofs.Ytpmfeaajpjjfiaa
/- THE CELL 'sum', in the pinned program and in every row, IS THE sha256 OF THE DUMP (.gsa) THAT YtpmfeaajpjjfiaaProg.lean LOADS. Nothing in Lean hashes anything: it is a label: what it is worth is what the hold of that sum in a sandbox is worth. -/
noncomputable def Try.pinned : Pinned := { name := "ytpmfeaajpjjfiaa", sum := "5283239602d92f02221cba0750b11c137ff3677a7fdd378f09ac7926867dbaad", checked := Try.checked }
namespace Rows
def none {H : Type} : Left H := { results := [], args := [] }

/-- 'culletlaw14.AfftNames': WHATEVER THE INPUT: true; the input reads as it did. -/
def afftNamesSpec : ChangeSpec := { name := "afftNames", fn := fun _ => fun
  | [] => { results := [.lit (.bool true)], args := [] }
  | _ => none }
def afftNamesRow : OpenClaim := { program := "ytpmfeaajpjjfiaa", sum := "5283239602d92f02221cba0750b11c137ff3677a7fdd378f09ac7926867dbaad", func := "cullet/culletlaw14.AfftNames", spec := "afftNames", apart := false }
def AfftNamesSaid : Prop := afftNamesRow.holds Try.pinned (OpenSpec.ofChange afftNamesSpec)

/-- ITS FALSE NEIGHBOUR: 'it returns false'. Refute it at one input. -/
def afftNamesWrong : ChangeSpec := { name := "afftNames", fn := fun _ => fun
  | [] => { results := [.lit (.bool false)], args := [] }
  | _ => none }
def AfftNamesWrongFalsely : Prop := afftNamesRow.holds Try.pinned (OpenSpec.ofChange afftNamesWrong)

/-- 'culletlaw14.AfftBack': WHATEVER THE INPUT: true; the input reads as it did. -/
def afftBackSpec : ChangeSpec := { name := "afftBack", fn := fun _ => fun
  | [d1, d2] => { results := [.lit (.bool true)], args := [d1, d2] }
  | _ => none }
def afftBackRow : OpenClaim := { program := "ytpmfeaajpjjfiaa", sum := "5283239602d92f02221cba0750b11c137ff3677a7fdd378f09ac7926867dbaad", func := "cullet/culletlaw14.AfftBack", spec := "afftBack", apart := false }
def AfftBackSaid : Prop := afftBackRow.holds Try.pinned (OpenSpec.ofChange afftBackSpec)

/-- ITS FALSE NEIGHBOUR: 'it returns false'. Refute it at one input. -/
def afftBackWrong : ChangeSpec := { name := "afftBack", fn := fun _ => fun
  | [d1, d2] => { results := [.lit (.bool false)], args := [d1, d2] }
  | _ => none }
def AfftBackWrongFalsely : Prop := afftBackRow.holds Try.pinned (OpenSpec.ofChange afftBackWrong)

/-- 'culletlaw14.AfftSums': WHATEVER THE INPUT: true; the input reads as it did. -/
def afftSumsSpec : ChangeSpec := { name := "afftSums", fn := fun _ => fun
  | [d1, d2, d3, d4] => { results := [.lit (.bool true)], args := [d1, d2, d3, d4] }
  | _ => none }
def afftSumsRow : OpenClaim := { program := "ytpmfeaajpjjfiaa", sum := "5283239602d92f02221cba0750b11c137ff3677a7fdd378f09ac7926867dbaad", func := "cullet/culletlaw14.AfftSums", spec := "afftSums", apart := false }
def AfftSumsSaid : Prop := afftSumsRow.holds Try.pinned (OpenSpec.ofChange afftSumsSpec)

/-- ITS FALSE NEIGHBOUR: 'it returns false'. Refute it at one input. -/
def afftSumsWrong : ChangeSpec := { name := "afftSums", fn := fun _ => fun
  | [d1, d2, d3, d4] => { results := [.lit (.bool false)], args := [d1, d2, d3, d4] }
  | _ => none }
def AfftSumsWrongFalsely : Prop := afftSumsRow.holds Try.pinned (OpenSpec.ofChange afftSumsWrong)

/-- 'culletlaw14.AfftOver': WHATEVER THE INPUT: true; the input reads as it did. -/
def afftOverSpec : ChangeSpec := { name := "afftOver", fn := fun _ => fun
  | [d1, d2, d3] => { results := [.lit (.bool true)], args := [d1, d2, d3] }
  | _ => none }
def afftOverRow : OpenClaim := { program := "ytpmfeaajpjjfiaa", sum := "5283239602d92f02221cba0750b11c137ff3677a7fdd378f09ac7926867dbaad", func := "cullet/culletlaw14.AfftOver", spec := "afftOver", apart := false }
def AfftOverSaid : Prop := afftOverRow.holds Try.pinned (OpenSpec.ofChange afftOverSpec)

/-- ITS FALSE NEIGHBOUR: 'it returns false'. Refute it at one input. -/
def afftOverWrong : ChangeSpec := { name := "afftOver", fn := fun _ => fun
  | [d1, d2, d3] => { results := [.lit (.bool false)], args := [d1, d2, d3] }
  | _ => none }
def AfftOverWrongFalsely : Prop := afftOverRow.holds Try.pinned (OpenSpec.ofChange afftOverWrong)

/-- 'culletlaw14.AfftLists': WHATEVER THE INPUT: true; the input reads as it did. -/
def afftListsSpec : ChangeSpec := { name := "afftLists", fn := fun _ => fun
  | [d1, d2, d3] => { results := [.lit (.bool true)], args := [d1, d2, d3] }
  | _ => none }
def afftListsRow : OpenClaim := { program := "ytpmfeaajpjjfiaa", sum := "5283239602d92f02221cba0750b11c137ff3677a7fdd378f09ac7926867dbaad", func := "cullet/culletlaw14.AfftLists", spec := "afftLists", apart := false }
def AfftListsSaid : Prop := afftListsRow.holds Try.pinned (OpenSpec.ofChange afftListsSpec)

/-- ITS FALSE NEIGHBOUR: 'it returns false'. Refute it at one input. -/
def afftListsWrong : ChangeSpec := { name := "afftLists", fn := fun _ => fun
  | [d1, d2, d3] => { results := [.lit (.bool false)], args := [d1, d2, d3] }
  | _ => none }
def AfftListsWrongFalsely : Prop := afftListsRow.holds Try.pinned (OpenSpec.ofChange afftListsWrong)

/-- 'culletlaw14.AfftColumns': WHATEVER THE INPUT: true; the input reads as it did. -/
def afftColumnsSpec : ChangeSpec := { name := "afftColumns", fn := fun _ => fun
  | [d1, d2, d3] => { results := [.lit (.bool true)], args := [d1, d2, d3] }
  | _ => none }
def afftColumnsRow : OpenClaim := { program := "ytpmfeaajpjjfiaa", sum := "5283239602d92f02221cba0750b11c137ff3677a7fdd378f09ac7926867dbaad", func := "cullet/culletlaw14.AfftColumns", spec := "afftColumns", apart := false }
def AfftColumnsSaid : Prop := afftColumnsRow.holds Try.pinned (OpenSpec.ofChange afftColumnsSpec)

/-- ITS FALSE NEIGHBOUR: 'it returns false'. Refute it at one input. -/
def afftColumnsWrong : ChangeSpec := { name := "afftColumns", fn := fun _ => fun
  | [d1, d2, d3] => { results := [.lit (.bool false)], args := [d1, d2, d3] }
  | _ => none }
def AfftColumnsWrongFalsely : Prop := afftColumnsRow.holds Try.pinned (OpenSpec.ofChange afftColumnsWrong)

/-- 'culletlaw14.AfftRows': WHATEVER THE INPUT: true; the input reads as it did. -/
def afftRowsSpec : ChangeSpec := { name := "afftRows", fn := fun _ => fun
  | [d] => { results := [.lit (.bool true)], args := [d] }
  | _ => none }
def afftRowsRow : OpenClaim := { program := "ytpmfeaajpjjfiaa", sum := "5283239602d92f02221cba0750b11c137ff3677a7fdd378f09ac7926867dbaad", func := "cullet/culletlaw14.AfftRows", spec := "afftRows", recurses := true, apart := false }
def AfftRowsSaid : Prop := afftRowsRow.holds Try.pinned (OpenSpec.ofChange afftRowsSpec)

/-- ITS FALSE NEIGHBOUR: 'it returns false'. Refute it at one input. -/
def afftRowsWrong : ChangeSpec := { name := "afftRows", fn := fun _ => fun
  | [d] => { results := [.lit (.bool false)], args := [d] }
  | _ => none }
def AfftRowsWrongFalsely : Prop := afftRowsRow.holds Try.pinned (OpenSpec.ofChange afftRowsWrong)

/-- 'culletlaw14.AfftAlls': WHATEVER THE INPUT: true; the input reads as it did. -/
def afftAllsSpec : ChangeSpec := { name := "afftAlls", fn := fun _ => fun
  | [d] => { results := [.lit (.bool true)], args := [d] }
  | _ => none }
def afftAllsRow : OpenClaim := { program := "ytpmfeaajpjjfiaa", sum := "5283239602d92f02221cba0750b11c137ff3677a7fdd378f09ac7926867dbaad", func := "cullet/culletlaw14.AfftAlls", spec := "afftAlls", recurses := true, apart := false }
def AfftAllsSaid : Prop := afftAllsRow.holds Try.pinned (OpenSpec.ofChange afftAllsSpec)

/-- ITS FALSE NEIGHBOUR: 'it returns false'. Refute it at one input. -/
def afftAllsWrong : ChangeSpec := { name := "afftAlls", fn := fun _ => fun
  | [d] => { results := [.lit (.bool false)], args := [d] }
  | _ => none }
def AfftAllsWrongFalsely : Prop := afftAllsRow.holds Try.pinned (OpenSpec.ofChange afftAllsWrong)

/-- 'culletlaw14.AfftValues': WHATEVER THE INPUT: true; the input reads as it did. -/
def afftValuesSpec : ChangeSpec := { name := "afftValues", fn := fun _ => fun
  | [d1, d2] => { results := [.lit (.bool true)], args := [d1, d2] }
  | _ => none }
def afftValuesRow : OpenClaim := { program := "ytpmfeaajpjjfiaa", sum := "5283239602d92f02221cba0750b11c137ff3677a7fdd378f09ac7926867dbaad", func := "cullet/culletlaw14.AfftValues", spec := "afftValues", apart := false }
def AfftValuesSaid : Prop := afftValuesRow.holds Try.pinned (OpenSpec.ofChange afftValuesSpec)

/-- ITS FALSE NEIGHBOUR: 'it returns false'. Refute it at one input. -/
def afftValuesWrong : ChangeSpec := { name := "afftValues", fn := fun _ => fun
  | [d1, d2] => { results := [.lit (.bool false)], args := [d1, d2] }
  | _ => none }
def AfftValuesWrongFalsely : Prop := afftValuesRow.holds Try.pinned (OpenSpec.ofChange afftValuesWrong)

/-- 'culletlaw14.AfftParities': WHATEVER THE INPUT: true; the input reads as it did. -/
def afftParitiesSpec : ChangeSpec := { name := "afftParities", fn := fun _ => fun
  | [d1, d2] => { results := [.lit (.bool true)], args := [d1, d2] }
  | _ => none }
def afftParitiesRow : OpenClaim := { program := "ytpmfeaajpjjfiaa", sum := "5283239602d92f02221cba0750b11c137ff3677a7fdd378f09ac7926867dbaad", func := "cullet/culletlaw14.AfftParities", spec := "afftParities", unfollowed := true, recurses := true, apart := false }
def AfftParitiesSaid : Prop := afftParitiesRow.holds Try.pinned (OpenSpec.ofChange afftParitiesSpec)

/-- ITS FALSE NEIGHBOUR: 'it returns false'. Refute it at one input. -/
def afftParitiesWrong : ChangeSpec := { name := "afftParities", fn := fun _ => fun
  | [d1, d2] => { results := [.lit (.bool false)], args := [d1, d2] }
  | _ => none }
def AfftParitiesWrongFalsely : Prop := afftParitiesRow.holds Try.pinned (OpenSpec.ofChange afftParitiesWrong)

/-- 'culletlaw14.AfftPowers': WHATEVER THE INPUT: true; the input reads as it did. -/
def afftPowersSpec : ChangeSpec := { name := "afftPowers", fn := fun _ => fun
  | [d1, d2] => { results := [.lit (.bool true)], args := [d1, d2] }
  | _ => none }
def afftPowersRow : OpenClaim := { program := "ytpmfeaajpjjfiaa", sum := "5283239602d92f02221cba0750b11c137ff3677a7fdd378f09ac7926867dbaad", func := "cullet/culletlaw14.AfftPowers", spec := "afftPowers", unfollowed := true, recurses := true, apart := false }
def AfftPowersSaid : Prop := afftPowersRow.holds Try.pinned (OpenSpec.ofChange afftPowersSpec)

/-- ITS FALSE NEIGHBOUR: 'it returns false'. Refute it at one input. -/
def afftPowersWrong : ChangeSpec := { name := "afftPowers", fn := fun _ => fun
  | [d1, d2] => { results := [.lit (.bool false)], args := [d1, d2] }
  | _ => none }
def AfftPowersWrongFalsely : Prop := afftPowersRow.holds Try.pinned (OpenSpec.ofChange afftPowersWrong)

/- THE SECOND FORM. 'bulk': how many values and letters a reading holds, each counted each time it is reached (what is shared counts as often as it is met; a slice's spare places count too). A statement '..UptoSaid' is the law's where the arguments, and the package variables that the reading takes, are together of bulk at most 1048576: NARROWER than '..Said'. Prove '..Said' where nothing that the law and all that it calls make is longer than what came in: it says more and counts as full. Else prove '..UptoSaid'. A law counts once. -/
mutual
def uptoBulk {H : Type} : DataW H → Nat
  | .lit (.string bytes) => bytes.length + 1
  | .lit _ => 1
  | .nil => 1
  | .ptr d => uptoBulk d + 1
  | .slice elems spare => uptoBulkAll elems + uptoBulkAll spare + 1
  | .agg parts => uptoBulkAll parts + 1
  | .iface _ d => uptoBulk d + 1
  | .map entries => uptoBulkEntries entries + 1
  | .held _ => 1
def uptoBulkAll {H : Type} : List (DataW H) → Nat
  | [] => 0
  | d :: r => uptoBulk d + uptoBulkAll r
def uptoBulkEntries {H : Type} : List (Lit × DataW H) → Nat
  | [] => 0
  | x :: r => uptoBulkEntry x + uptoBulkEntries r
def uptoBulkEntry {H : Type} : Lit × DataW H → Nat
  | (.string bytes, d) => bytes.length + uptoBulk d + 1
  | (_, d) => uptoBulk d + 1
 end
def uptoSmall : (H : Type) → List (DataW H) → Bool := fun _ ds => decide (uptoBulkAll ds ≤ 1048576)
def OpenSpec.upto (s : _root_.Go.ChangeSpec) : _root_.Go.OpenSpec := { _root_.Go.OpenSpec.ofChange s with cond := some uptoSmall }

/-- 'culletlaw14.AfftNames', WHERE WHAT IT READS IS OF BULK AT MOST 1048576: true; the input reads as it did. -/
def afftNamesUptoRow : OpenClaim := { program := "ytpmfeaajpjjfiaa", sum := "5283239602d92f02221cba0750b11c137ff3677a7fdd378f09ac7926867dbaad", func := "cullet/culletlaw14.AfftNames", spec := "afftNames", apart := false, narrowed := true }
def AfftNamesUptoSaid : Prop := afftNamesUptoRow.holds Try.pinned (OpenSpec.upto afftNamesSpec)

/-- 'culletlaw14.AfftBack', WHERE WHAT IT READS IS OF BULK AT MOST 1048576: true; the input reads as it did. -/
def afftBackUptoRow : OpenClaim := { program := "ytpmfeaajpjjfiaa", sum := "5283239602d92f02221cba0750b11c137ff3677a7fdd378f09ac7926867dbaad", func := "cullet/culletlaw14.AfftBack", spec := "afftBack", apart := false, narrowed := true }
def AfftBackUptoSaid : Prop := afftBackUptoRow.holds Try.pinned (OpenSpec.upto afftBackSpec)

/-- 'culletlaw14.AfftSums', WHERE WHAT IT READS IS OF BULK AT MOST 1048576: true; the input reads as it did. -/
def afftSumsUptoRow : OpenClaim := { program := "ytpmfeaajpjjfiaa", sum := "5283239602d92f02221cba0750b11c137ff3677a7fdd378f09ac7926867dbaad", func := "cullet/culletlaw14.AfftSums", spec := "afftSums", apart := false, narrowed := true }
def AfftSumsUptoSaid : Prop := afftSumsUptoRow.holds Try.pinned (OpenSpec.upto afftSumsSpec)

/-- 'culletlaw14.AfftOver', WHERE WHAT IT READS IS OF BULK AT MOST 1048576: true; the input reads as it did. -/
def afftOverUptoRow : OpenClaim := { program := "ytpmfeaajpjjfiaa", sum := "5283239602d92f02221cba0750b11c137ff3677a7fdd378f09ac7926867dbaad", func := "cullet/culletlaw14.AfftOver", spec := "afftOver", apart := false, narrowed := true }
def AfftOverUptoSaid : Prop := afftOverUptoRow.holds Try.pinned (OpenSpec.upto afftOverSpec)

/-- 'culletlaw14.AfftLists', WHERE WHAT IT READS IS OF BULK AT MOST 1048576: true; the input reads as it did. -/
def afftListsUptoRow : OpenClaim := { program := "ytpmfeaajpjjfiaa", sum := "5283239602d92f02221cba0750b11c137ff3677a7fdd378f09ac7926867dbaad", func := "cullet/culletlaw14.AfftLists", spec := "afftLists", apart := false, narrowed := true }
def AfftListsUptoSaid : Prop := afftListsUptoRow.holds Try.pinned (OpenSpec.upto afftListsSpec)

/-- 'culletlaw14.AfftColumns', WHERE WHAT IT READS IS OF BULK AT MOST 1048576: true; the input reads as it did. -/
def afftColumnsUptoRow : OpenClaim := { program := "ytpmfeaajpjjfiaa", sum := "5283239602d92f02221cba0750b11c137ff3677a7fdd378f09ac7926867dbaad", func := "cullet/culletlaw14.AfftColumns", spec := "afftColumns", apart := false, narrowed := true }
def AfftColumnsUptoSaid : Prop := afftColumnsUptoRow.holds Try.pinned (OpenSpec.upto afftColumnsSpec)

/-- 'culletlaw14.AfftRows', WHERE WHAT IT READS IS OF BULK AT MOST 1048576: true; the input reads as it did. -/
def afftRowsUptoRow : OpenClaim := { program := "ytpmfeaajpjjfiaa", sum := "5283239602d92f02221cba0750b11c137ff3677a7fdd378f09ac7926867dbaad", func := "cullet/culletlaw14.AfftRows", spec := "afftRows", recurses := true, apart := false, narrowed := true }
def AfftRowsUptoSaid : Prop := afftRowsUptoRow.holds Try.pinned (OpenSpec.upto afftRowsSpec)

/-- 'culletlaw14.AfftAlls', WHERE WHAT IT READS IS OF BULK AT MOST 1048576: true; the input reads as it did. -/
def afftAllsUptoRow : OpenClaim := { program := "ytpmfeaajpjjfiaa", sum := "5283239602d92f02221cba0750b11c137ff3677a7fdd378f09ac7926867dbaad", func := "cullet/culletlaw14.AfftAlls", spec := "afftAlls", recurses := true, apart := false, narrowed := true }
def AfftAllsUptoSaid : Prop := afftAllsUptoRow.holds Try.pinned (OpenSpec.upto afftAllsSpec)

/-- 'culletlaw14.AfftValues', WHERE WHAT IT READS IS OF BULK AT MOST 1048576: true; the input reads as it did. -/
def afftValuesUptoRow : OpenClaim := { program := "ytpmfeaajpjjfiaa", sum := "5283239602d92f02221cba0750b11c137ff3677a7fdd378f09ac7926867dbaad", func := "cullet/culletlaw14.AfftValues", spec := "afftValues", apart := false, narrowed := true }
def AfftValuesUptoSaid : Prop := afftValuesUptoRow.holds Try.pinned (OpenSpec.upto afftValuesSpec)

/-- 'culletlaw14.AfftParities', WHERE WHAT IT READS IS OF BULK AT MOST 1048576: true; the input reads as it did. -/
def afftParitiesUptoRow : OpenClaim := { program := "ytpmfeaajpjjfiaa", sum := "5283239602d92f02221cba0750b11c137ff3677a7fdd378f09ac7926867dbaad", func := "cullet/culletlaw14.AfftParities", spec := "afftParities", unfollowed := true, recurses := true, apart := false, narrowed := true }
def AfftParitiesUptoSaid : Prop := afftParitiesUptoRow.holds Try.pinned (OpenSpec.upto afftParitiesSpec)

/-- 'culletlaw14.AfftPowers', WHERE WHAT IT READS IS OF BULK AT MOST 1048576: true; the input reads as it did. -/
def afftPowersUptoRow : OpenClaim := { program := "ytpmfeaajpjjfiaa", sum := "5283239602d92f02221cba0750b11c137ff3677a7fdd378f09ac7926867dbaad", func := "cullet/culletlaw14.AfftPowers", spec := "afftPowers", unfollowed := true, recurses := true, apart := false, narrowed := true }
def AfftPowersUptoSaid : Prop := afftPowersUptoRow.holds Try.pinned (OpenSpec.upto afftPowersSpec)

end Rows
end Go.Proofs.Ytpmfeaajpjjfiaa
