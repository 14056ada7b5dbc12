/-
  No cell of these rows narrows 'for every input' (looked for: loops, veiled, ifaces, maps, wideKeys, modest, calm, conditions, laid).
  DERIVED. THE GIVEN ROWS OF THIS SEAT. 10 by the template 'for every input the law returns true; each argument reads behind the call as it read before'; 0 by the template 'total and deterministic' (their statements: YtbaljbadlfopgaaTotals.lean).
  GIVEN WITH THE SEED: the statements are not yours to turn. If you find one false, say at which input.
  Laid BY PROGRAM, IN A SANDBOX (cutbox-rows.mjs): the forced cells as the released guide's own fill.sh prints them over the translation 9b9edcd3358bd6ac… (all of the seat's roots in one cut). By AI agents, Wed Nov 11 2026. No macro, syntax, notation, axiom, sorry.
-/
import Derived.Test.YtbaljbadlfopgaaChecked
import GoSem.Claim
import GoSem.ClaimJoined
import GoSem.ClaimMapViews
import Derived.JoinedTies
import Derived.KernelRfl
namespace Go.Proofs.Ytbaljbadlfopgaa
/- THE CELL 'sum', in the pinned program and in every row, IS THE sha256 OF THE DUMP (.gsa) THAT YtbaljbadlfopgaaProg.lean LOADS. Nothing in Lean hashes anything: it is a label: what it is worth is what the hold of that sum in a sandbox is worth. -/
noncomputable def Try.pinned : Pinned := { name := "ytbaljbadlfopgaa", sum := "9b9edcd3358bd6ac3c6575b621c77dc1ef1607bcc4290acb2ff118cc689e351f", checked := Try.checked }
namespace Rows
def none {H : Type} : Left H := { results := [], args := [] }

/-- 'culletlaw19.MendColumns': WHATEVER THE INPUT: true; the input reads as it did. -/
def mendColumnsSpec : ChangeSpec := { name := "mendColumns", fn := fun _ => fun
  | [d] => { results := [.lit (.bool true)], args := [d] }
  | _ => none }
def mendColumnsRow : OpenClaim := { program := "ytbaljbadlfopgaa", sum := "9b9edcd3358bd6ac3c6575b621c77dc1ef1607bcc4290acb2ff118cc689e351f", func := "cullet/culletlaw19.MendColumns", spec := "mendColumns", unfollowed := true, recurses := true, apart := false }
def MendColumnsSaid : Prop := mendColumnsRow.holds Try.pinned (OpenSpec.ofChange mendColumnsSpec)

/-- ITS FALSE NEIGHBOUR: 'it returns false'. Refute it at one input. -/
def mendColumnsWrong : ChangeSpec := { name := "mendColumns", fn := fun _ => fun
  | [d] => { results := [.lit (.bool false)], args := [d] }
  | _ => none }
def MendColumnsWrongFalsely : Prop := mendColumnsRow.holds Try.pinned (OpenSpec.ofChange mendColumnsWrong)

/-- 'culletlaw19.MendCurves': WHATEVER THE INPUT: true; the input reads as it did. -/
def mendCurvesSpec : ChangeSpec := { name := "mendCurves", fn := fun _ => fun
  | [d] => { results := [.lit (.bool true)], args := [d] }
  | _ => none }
def mendCurvesRow : OpenClaim := { program := "ytbaljbadlfopgaa", sum := "9b9edcd3358bd6ac3c6575b621c77dc1ef1607bcc4290acb2ff118cc689e351f", func := "cullet/culletlaw19.MendCurves", spec := "mendCurves", unfollowed := true, recurses := true, apart := false }
def MendCurvesSaid : Prop := mendCurvesRow.holds Try.pinned (OpenSpec.ofChange mendCurvesSpec)

/-- ITS FALSE NEIGHBOUR: 'it returns false'. Refute it at one input. -/
def mendCurvesWrong : ChangeSpec := { name := "mendCurves", fn := fun _ => fun
  | [d] => { results := [.lit (.bool false)], args := [d] }
  | _ => none }
def MendCurvesWrongFalsely : Prop := mendCurvesRow.holds Try.pinned (OpenSpec.ofChange mendCurvesWrong)

/-- 'culletlaw19.MendNames': WHATEVER THE INPUT: true; the input reads as it did. -/
def mendNamesSpec : ChangeSpec := { name := "mendNames", fn := fun _ => fun
  | [] => { results := [.lit (.bool true)], args := [] }
  | _ => none }
def mendNamesRow : OpenClaim := { program := "ytbaljbadlfopgaa", sum := "9b9edcd3358bd6ac3c6575b621c77dc1ef1607bcc4290acb2ff118cc689e351f", func := "cullet/culletlaw19.MendNames", spec := "mendNames", unfollowed := true, recurses := true, apart := false }
def MendNamesSaid : Prop := mendNamesRow.holds Try.pinned (OpenSpec.ofChange mendNamesSpec)

/-- ITS FALSE NEIGHBOUR: 'it returns false'. Refute it at one input. -/
def mendNamesWrong : ChangeSpec := { name := "mendNames", fn := fun _ => fun
  | [] => { results := [.lit (.bool false)], args := [] }
  | _ => none }
def MendNamesWrongFalsely : Prop := mendNamesRow.holds Try.pinned (OpenSpec.ofChange mendNamesWrong)

/-- 'culletlaw19.MendTells': WHATEVER THE INPUT: true; the input reads as it did. -/
def mendTellsSpec : ChangeSpec := { name := "mendTells", fn := fun _ => fun
  | [d] => { results := [.lit (.bool true)], args := [d] }
  | _ => none }
def mendTellsRow : OpenClaim := { program := "ytbaljbadlfopgaa", sum := "9b9edcd3358bd6ac3c6575b621c77dc1ef1607bcc4290acb2ff118cc689e351f", func := "cullet/culletlaw19.MendTells", spec := "mendTells", unfollowed := true, recurses := true, apart := false }
def MendTellsSaid : Prop := mendTellsRow.holds Try.pinned (OpenSpec.ofChange mendTellsSpec)

/-- ITS FALSE NEIGHBOUR: 'it returns false'. Refute it at one input. -/
def mendTellsWrong : ChangeSpec := { name := "mendTells", fn := fun _ => fun
  | [d] => { results := [.lit (.bool false)], args := [d] }
  | _ => none }
def MendTellsWrongFalsely : Prop := mendTellsRow.holds Try.pinned (OpenSpec.ofChange mendTellsWrong)

/-- 'culletlaw19.MendShards': WHATEVER THE INPUT: true; the input reads as it did. -/
def mendShardsSpec : ChangeSpec := { name := "mendShards", fn := fun _ => fun
  | [d] => { results := [.lit (.bool true)], args := [d] }
  | _ => none }
def mendShardsRow : OpenClaim := { program := "ytbaljbadlfopgaa", sum := "9b9edcd3358bd6ac3c6575b621c77dc1ef1607bcc4290acb2ff118cc689e351f", func := "cullet/culletlaw19.MendShards", spec := "mendShards", unfollowed := true, recurses := true, apart := false }
def MendShardsSaid : Prop := mendShardsRow.holds Try.pinned (OpenSpec.ofChange mendShardsSpec)

/-- ITS FALSE NEIGHBOUR: 'it returns false'. Refute it at one input. -/
def mendShardsWrong : ChangeSpec := { name := "mendShards", fn := fun _ => fun
  | [d] => { results := [.lit (.bool false)], args := [d] }
  | _ => none }
def MendShardsWrongFalsely : Prop := mendShardsRow.holds Try.pinned (OpenSpec.ofChange mendShardsWrong)

/-- 'culletlaw19.MendRepairs': WHATEVER THE INPUT: true; the input reads as it did. -/
def mendRepairsSpec : ChangeSpec := { name := "mendRepairs", fn := fun _ => fun
  | [d] => { results := [.lit (.bool true)], args := [d] }
  | _ => none }
def mendRepairsRow : OpenClaim := { program := "ytbaljbadlfopgaa", sum := "9b9edcd3358bd6ac3c6575b621c77dc1ef1607bcc4290acb2ff118cc689e351f", func := "cullet/culletlaw19.MendRepairs", spec := "mendRepairs", unfollowed := true, recurses := true, apart := false }
def MendRepairsSaid : Prop := mendRepairsRow.holds Try.pinned (OpenSpec.ofChange mendRepairsSpec)

/-- ITS FALSE NEIGHBOUR: 'it returns false'. Refute it at one input. -/
def mendRepairsWrong : ChangeSpec := { name := "mendRepairs", fn := fun _ => fun
  | [d] => { results := [.lit (.bool false)], args := [d] }
  | _ => none }
def MendRepairsWrongFalsely : Prop := mendRepairsRow.holds Try.pinned (OpenSpec.ofChange mendRepairsWrong)

/-- 'culletlaw19.MendMemory': WHATEVER THE INPUT: true; the input reads as it did. -/
def mendMemorySpec : ChangeSpec := { name := "mendMemory", fn := fun _ => fun
  | [d] => { results := [.lit (.bool true)], args := [d] }
  | _ => none }
def mendMemoryRow : OpenClaim := { program := "ytbaljbadlfopgaa", sum := "9b9edcd3358bd6ac3c6575b621c77dc1ef1607bcc4290acb2ff118cc689e351f", func := "cullet/culletlaw19.MendMemory", spec := "mendMemory", unfollowed := true, recurses := true, apart := false }
def MendMemorySaid : Prop := mendMemoryRow.holds Try.pinned (OpenSpec.ofChange mendMemorySpec)

/-- ITS FALSE NEIGHBOUR: 'it returns false'. Refute it at one input. -/
def mendMemoryWrong : ChangeSpec := { name := "mendMemory", fn := fun _ => fun
  | [d] => { results := [.lit (.bool false)], args := [d] }
  | _ => none }
def MendMemoryWrongFalsely : Prop := mendMemoryRow.holds Try.pinned (OpenSpec.ofChange mendMemoryWrong)

/-- 'cullettop.WholeFactors': WHATEVER THE INPUT: true; the input reads as it did. -/
def wholeFactorsSpec : ChangeSpec := { name := "wholeFactors", fn := fun _ => fun
  | [d] => { results := [.lit (.bool true)], args := [d] }
  | _ => none }
def wholeFactorsRow : OpenClaim := { program := "ytbaljbadlfopgaa", sum := "9b9edcd3358bd6ac3c6575b621c77dc1ef1607bcc4290acb2ff118cc689e351f", func := "cullet/cullettop.WholeFactors", spec := "wholeFactors", unfollowed := true, recurses := true, apart := false }
def WholeFactorsSaid : Prop := wholeFactorsRow.holds Try.pinned (OpenSpec.ofChange wholeFactorsSpec)

/-- ITS FALSE NEIGHBOUR: 'it returns false'. Refute it at one input. -/
def wholeFactorsWrong : ChangeSpec := { name := "wholeFactors", fn := fun _ => fun
  | [d] => { results := [.lit (.bool false)], args := [d] }
  | _ => none }
def WholeFactorsWrongFalsely : Prop := wholeFactorsRow.holds Try.pinned (OpenSpec.ofChange wholeFactorsWrong)

/-- 'cullettop.WholeLocates': WHATEVER THE INPUT: true; the input reads as it did. -/
def wholeLocatesSpec : ChangeSpec := { name := "wholeLocates", fn := fun _ => fun
  | [d1, d2] => { results := [.lit (.bool true)], args := [d1, d2] }
  | _ => none }
def wholeLocatesRow : OpenClaim := { program := "ytbaljbadlfopgaa", sum := "9b9edcd3358bd6ac3c6575b621c77dc1ef1607bcc4290acb2ff118cc689e351f", func := "cullet/cullettop.WholeLocates", spec := "wholeLocates", unfollowed := true, recurses := true, apart := false }
def WholeLocatesSaid : Prop := wholeLocatesRow.holds Try.pinned (OpenSpec.ofChange wholeLocatesSpec)

/-- ITS FALSE NEIGHBOUR: 'it returns false'. Refute it at one input. -/
def wholeLocatesWrong : ChangeSpec := { name := "wholeLocates", fn := fun _ => fun
  | [d1, d2] => { results := [.lit (.bool false)], args := [d1, d2] }
  | _ => none }
def WholeLocatesWrongFalsely : Prop := wholeLocatesRow.holds Try.pinned (OpenSpec.ofChange wholeLocatesWrong)

/-- 'cullettop.WholeMends': WHATEVER THE INPUT: true; the input reads as it did. -/
def wholeMendsSpec : ChangeSpec := { name := "wholeMends", fn := fun _ => fun
  | [d] => { results := [.lit (.bool true)], args := [d] }
  | _ => none }
def wholeMendsRow : OpenClaim := { program := "ytbaljbadlfopgaa", sum := "9b9edcd3358bd6ac3c6575b621c77dc1ef1607bcc4290acb2ff118cc689e351f", func := "cullet/cullettop.WholeMends", spec := "wholeMends", unfollowed := true, recurses := true, apart := false }
def WholeMendsSaid : Prop := wholeMendsRow.holds Try.pinned (OpenSpec.ofChange wholeMendsSpec)

/-- ITS FALSE NEIGHBOUR: 'it returns false'. Refute it at one input. -/
def wholeMendsWrong : ChangeSpec := { name := "wholeMends", fn := fun _ => fun
  | [d] => { results := [.lit (.bool false)], args := [d] }
  | _ => none }
def WholeMendsWrongFalsely : Prop := wholeMendsRow.holds Try.pinned (OpenSpec.ofChange wholeMendsWrong)

/- THE SECOND FORM. 'bulk': how many values and letters a reading holds, each counted each time it is reached (what is shared counts as often as it is met; a slice's spare places count too). A statement '..UptoSaid' is the law's where the arguments, and the package variables that the reading takes, are together of bulk at most 1048576: NARROWER than '..Said'. Prove '..Said' where nothing that the law and all that it calls make is longer than what came in: it says more and counts as full. Else prove '..UptoSaid'. A law counts once. -/
mutual
def uptoBulk {H : Type} : DataW H → Nat
  | .lit (.string bytes) => bytes.length + 1
  | .lit _ => 1
  | .nil => 1
  | .ptr d => uptoBulk d + 1
  | .slice elems spare => uptoBulkAll elems + uptoBulkAll spare + 1
  | .agg parts => uptoBulkAll parts + 1
  | .iface _ d => uptoBulk d + 1
  | .map entries => uptoBulkEntries entries + 1
  | .held _ => 1
def uptoBulkAll {H : Type} : List (DataW H) → Nat
  | [] => 0
  | d :: r => uptoBulk d + uptoBulkAll r
def uptoBulkEntries {H : Type} : List (Lit × DataW H) → Nat
  | [] => 0
  | x :: r => uptoBulkEntry x + uptoBulkEntries r
def uptoBulkEntry {H : Type} : Lit × DataW H → Nat
  | (.string bytes, d) => bytes.length + uptoBulk d + 1
  | (_, d) => uptoBulk d + 1
 end
def uptoSmall : (H : Type) → List (DataW H) → Bool := fun _ ds => decide (uptoBulkAll ds ≤ 1048576)
def OpenSpec.upto (s : _root_.Go.ChangeSpec) : _root_.Go.OpenSpec := { _root_.Go.OpenSpec.ofChange s with cond := some uptoSmall }

/-- 'culletlaw19.MendColumns', WHERE WHAT IT READS IS OF BULK AT MOST 1048576: true; the input reads as it did. -/
def mendColumnsUptoRow : OpenClaim := { program := "ytbaljbadlfopgaa", sum := "9b9edcd3358bd6ac3c6575b621c77dc1ef1607bcc4290acb2ff118cc689e351f", func := "cullet/culletlaw19.MendColumns", spec := "mendColumns", unfollowed := true, recurses := true, apart := false, narrowed := true }
def MendColumnsUptoSaid : Prop := mendColumnsUptoRow.holds Try.pinned (OpenSpec.upto mendColumnsSpec)

/-- 'culletlaw19.MendCurves', WHERE WHAT IT READS IS OF BULK AT MOST 1048576: true; the input reads as it did. -/
def mendCurvesUptoRow : OpenClaim := { program := "ytbaljbadlfopgaa", sum := "9b9edcd3358bd6ac3c6575b621c77dc1ef1607bcc4290acb2ff118cc689e351f", func := "cullet/culletlaw19.MendCurves", spec := "mendCurves", unfollowed := true, recurses := true, apart := false, narrowed := true }
def MendCurvesUptoSaid : Prop := mendCurvesUptoRow.holds Try.pinned (OpenSpec.upto mendCurvesSpec)

/-- 'culletlaw19.MendNames', WHERE WHAT IT READS IS OF BULK AT MOST 1048576: true; the input reads as it did. -/
def mendNamesUptoRow : OpenClaim := { program := "ytbaljbadlfopgaa", sum := "9b9edcd3358bd6ac3c6575b621c77dc1ef1607bcc4290acb2ff118cc689e351f", func := "cullet/culletlaw19.MendNames", spec := "mendNames", unfollowed := true, recurses := true, apart := false, narrowed := true }
def MendNamesUptoSaid : Prop := mendNamesUptoRow.holds Try.pinned (OpenSpec.upto mendNamesSpec)

/-- 'culletlaw19.MendTells', WHERE WHAT IT READS IS OF BULK AT MOST 1048576: true; the input reads as it did. -/
def mendTellsUptoRow : OpenClaim := { program := "ytbaljbadlfopgaa", sum := "9b9edcd3358bd6ac3c6575b621c77dc1ef1607bcc4290acb2ff118cc689e351f", func := "cullet/culletlaw19.MendTells", spec := "mendTells", unfollowed := true, recurses := true, apart := false, narrowed := true }
def MendTellsUptoSaid : Prop := mendTellsUptoRow.holds Try.pinned (OpenSpec.upto mendTellsSpec)

/-- 'culletlaw19.MendShards', WHERE WHAT IT READS IS OF BULK AT MOST 1048576: true; the input reads as it did. -/
def mendShardsUptoRow : OpenClaim := { program := "ytbaljbadlfopgaa", sum := "9b9edcd3358bd6ac3c6575b621c77dc1ef1607bcc4290acb2ff118cc689e351f", func := "cullet/culletlaw19.MendShards", spec := "mendShards", unfollowed := true, recurses := true, apart := false, narrowed := true }
def MendShardsUptoSaid : Prop := mendShardsUptoRow.holds Try.pinned (OpenSpec.upto mendShardsSpec)

/-- 'culletlaw19.MendRepairs', WHERE WHAT IT READS IS OF BULK AT MOST 1048576: true; the input reads as it did. -/
def mendRepairsUptoRow : OpenClaim := { program := "ytbaljbadlfopgaa", sum := "9b9edcd3358bd6ac3c6575b621c77dc1ef1607bcc4290acb2ff118cc689e351f", func := "cullet/culletlaw19.MendRepairs", spec := "mendRepairs", unfollowed := true, recurses := true, apart := false, narrowed := true }
def MendRepairsUptoSaid : Prop := mendRepairsUptoRow.holds Try.pinned (OpenSpec.upto mendRepairsSpec)

/-- 'culletlaw19.MendMemory', WHERE WHAT IT READS IS OF BULK AT MOST 1048576: true; the input reads as it did. -/
def mendMemoryUptoRow : OpenClaim := { program := "ytbaljbadlfopgaa", sum := "9b9edcd3358bd6ac3c6575b621c77dc1ef1607bcc4290acb2ff118cc689e351f", func := "cullet/culletlaw19.MendMemory", spec := "mendMemory", unfollowed := true, recurses := true, apart := false, narrowed := true }
def MendMemoryUptoSaid : Prop := mendMemoryUptoRow.holds Try.pinned (OpenSpec.upto mendMemorySpec)

/-- 'cullettop.WholeFactors', WHERE WHAT IT READS IS OF BULK AT MOST 1048576: true; the input reads as it did. -/
def wholeFactorsUptoRow : OpenClaim := { program := "ytbaljbadlfopgaa", sum := "9b9edcd3358bd6ac3c6575b621c77dc1ef1607bcc4290acb2ff118cc689e351f", func := "cullet/cullettop.WholeFactors", spec := "wholeFactors", unfollowed := true, recurses := true, apart := false, narrowed := true }
def WholeFactorsUptoSaid : Prop := wholeFactorsUptoRow.holds Try.pinned (OpenSpec.upto wholeFactorsSpec)

/-- 'cullettop.WholeLocates', WHERE WHAT IT READS IS OF BULK AT MOST 1048576: true; the input reads as it did. -/
def wholeLocatesUptoRow : OpenClaim := { program := "ytbaljbadlfopgaa", sum := "9b9edcd3358bd6ac3c6575b621c77dc1ef1607bcc4290acb2ff118cc689e351f", func := "cullet/cullettop.WholeLocates", spec := "wholeLocates", unfollowed := true, recurses := true, apart := false, narrowed := true }
def WholeLocatesUptoSaid : Prop := wholeLocatesUptoRow.holds Try.pinned (OpenSpec.upto wholeLocatesSpec)

/-- 'cullettop.WholeMends', WHERE WHAT IT READS IS OF BULK AT MOST 1048576: true; the input reads as it did. -/
def wholeMendsUptoRow : OpenClaim := { program := "ytbaljbadlfopgaa", sum := "9b9edcd3358bd6ac3c6575b621c77dc1ef1607bcc4290acb2ff118cc689e351f", func := "cullet/cullettop.WholeMends", spec := "wholeMends", unfollowed := true, recurses := true, apart := false, narrowed := true }
def WholeMendsUptoSaid : Prop := wholeMendsUptoRow.holds Try.pinned (OpenSpec.upto wholeMendsSpec)

end Rows
end Go.Proofs.Ytbaljbadlfopgaa
