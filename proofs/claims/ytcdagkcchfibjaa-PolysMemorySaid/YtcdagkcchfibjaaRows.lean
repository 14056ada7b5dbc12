/-
  No cell of these rows narrows 'for every input' (looked for: loops, veiled, ifaces, maps, wideKeys, modest, calm, conditions, laid).
  DERIVED. THE GIVEN ROWS OF THIS SEAT. 9 by the template 'for every input the law returns true; each argument reads behind the call as it read before'; 0 by the template 'total and deterministic' (their statements: YtcdagkcchfibjaaTotals.lean).
  GIVEN WITH THE SEED: the statements are not yours to turn. If you find one false, say at which input.
  Laid BY PROGRAM, IN A SANDBOX (cutbox-rows.mjs): the forced cells as the released guide's own fill.sh prints them over the translation 16cb0bc0c9250f39… (all of the seat's roots in one cut). By AI agents, Wed Nov 11 2026. No macro, syntax, notation, axiom, sorry.
-/
import Derived.Test.YtcdagkcchfibjaaChecked
import GoSem.Claim
import GoSem.ClaimJoined
import GoSem.ClaimMapViews
import Derived.JoinedTies
import Derived.KernelRfl
namespace Go.Proofs.Ytcdagkcchfibjaa
/- THE CELL 'sum', in the pinned program and in every row, IS THE sha256 OF THE DUMP (.gsa) THAT YtcdagkcchfibjaaProg.lean LOADS. Nothing in Lean hashes anything: it is a label: what it is worth is what the hold of that sum in a sandbox is worth. -/
noncomputable def Try.pinned : Pinned := { name := "ytcdagkcchfibjaa", sum := "16cb0bc0c9250f396ac08fff161fcd8536a2be3d5125d244dd11cd3d4c7f1ae7", checked := Try.checked }
namespace Rows
def none {H : Type} : Left H := { results := [], args := [] }

/-- 'culletlaw04.PolysNames': WHATEVER THE INPUT: true; the input reads as it did. -/
def polysNamesSpec : ChangeSpec := { name := "polysNames", fn := fun _ => fun
  | [] => { results := [.lit (.bool true)], args := [] }
  | _ => none }
def polysNamesRow : OpenClaim := { program := "ytcdagkcchfibjaa", sum := "16cb0bc0c9250f396ac08fff161fcd8536a2be3d5125d244dd11cd3d4c7f1ae7", func := "cullet/culletlaw04.PolysNames", spec := "polysNames", unfollowed := true, recurses := true, apart := false }
def PolysNamesSaid : Prop := polysNamesRow.holds Try.pinned (OpenSpec.ofChange polysNamesSpec)

/-- ITS FALSE NEIGHBOUR: 'it returns false'. Refute it at one input. -/
def polysNamesWrong : ChangeSpec := { name := "polysNames", fn := fun _ => fun
  | [] => { results := [.lit (.bool false)], args := [] }
  | _ => none }
def PolysNamesWrongFalsely : Prop := polysNamesRow.holds Try.pinned (OpenSpec.ofChange polysNamesWrong)

/-- 'culletlaw04.PolysVanish': WHATEVER THE INPUT: true; the input reads as it did. -/
def polysVanishSpec : ChangeSpec := { name := "polysVanish", fn := fun _ => fun
  | [d] => { results := [.lit (.bool true)], args := [d] }
  | _ => none }
def polysVanishRow : OpenClaim := { program := "ytcdagkcchfibjaa", sum := "16cb0bc0c9250f396ac08fff161fcd8536a2be3d5125d244dd11cd3d4c7f1ae7", func := "cullet/culletlaw04.PolysVanish", spec := "polysVanish", unfollowed := true, recurses := true, apart := false }
def PolysVanishSaid : Prop := polysVanishRow.holds Try.pinned (OpenSpec.ofChange polysVanishSpec)

/-- ITS FALSE NEIGHBOUR: 'it returns false'. Refute it at one input. -/
def polysVanishWrong : ChangeSpec := { name := "polysVanish", fn := fun _ => fun
  | [d] => { results := [.lit (.bool false)], args := [d] }
  | _ => none }
def PolysVanishWrongFalsely : Prop := polysVanishRow.holds Try.pinned (OpenSpec.ofChange polysVanishWrong)

/-- 'culletlaw04.PolysThrough': WHATEVER THE INPUT: true; the input reads as it did. -/
def polysThroughSpec : ChangeSpec := { name := "polysThrough", fn := fun _ => fun
  | [d] => { results := [.lit (.bool true)], args := [d] }
  | _ => none }
def polysThroughRow : OpenClaim := { program := "ytcdagkcchfibjaa", sum := "16cb0bc0c9250f396ac08fff161fcd8536a2be3d5125d244dd11cd3d4c7f1ae7", func := "cullet/culletlaw04.PolysThrough", spec := "polysThrough", unfollowed := true, recurses := true, apart := false }
def PolysThroughSaid : Prop := polysThroughRow.holds Try.pinned (OpenSpec.ofChange polysThroughSpec)

/-- ITS FALSE NEIGHBOUR: 'it returns false'. Refute it at one input. -/
def polysThroughWrong : ChangeSpec := { name := "polysThrough", fn := fun _ => fun
  | [d] => { results := [.lit (.bool false)], args := [d] }
  | _ => none }
def PolysThroughWrongFalsely : Prop := polysThroughRow.holds Try.pinned (OpenSpec.ofChange polysThroughWrong)

/-- 'culletlaw04.PolysLeibniz': WHATEVER THE INPUT: true; the input reads as it did. -/
def polysLeibnizSpec : ChangeSpec := { name := "polysLeibniz", fn := fun _ => fun
  | [d] => { results := [.lit (.bool true)], args := [d] }
  | _ => none }
def polysLeibnizRow : OpenClaim := { program := "ytcdagkcchfibjaa", sum := "16cb0bc0c9250f396ac08fff161fcd8536a2be3d5125d244dd11cd3d4c7f1ae7", func := "cullet/culletlaw04.PolysLeibniz", spec := "polysLeibniz", unfollowed := true, recurses := true, apart := false }
def PolysLeibnizSaid : Prop := polysLeibnizRow.holds Try.pinned (OpenSpec.ofChange polysLeibnizSpec)

/-- ITS FALSE NEIGHBOUR: 'it returns false'. Refute it at one input. -/
def polysLeibnizWrong : ChangeSpec := { name := "polysLeibniz", fn := fun _ => fun
  | [d] => { results := [.lit (.bool false)], args := [d] }
  | _ => none }
def PolysLeibnizWrongFalsely : Prop := polysLeibnizRow.holds Try.pinned (OpenSpec.ofChange polysLeibnizWrong)

/-- 'culletlaw04.PolysRoots': WHATEVER THE INPUT: true; the input reads as it did. -/
def polysRootsSpec : ChangeSpec := { name := "polysRoots", fn := fun _ => fun
  | [d] => { results := [.lit (.bool true)], args := [d] }
  | _ => none }
def polysRootsRow : OpenClaim := { program := "ytcdagkcchfibjaa", sum := "16cb0bc0c9250f396ac08fff161fcd8536a2be3d5125d244dd11cd3d4c7f1ae7", func := "cullet/culletlaw04.PolysRoots", spec := "polysRoots", unfollowed := true, recurses := true, apart := false }
def PolysRootsSaid : Prop := polysRootsRow.holds Try.pinned (OpenSpec.ofChange polysRootsSpec)

/-- ITS FALSE NEIGHBOUR: 'it returns false'. Refute it at one input. -/
def polysRootsWrong : ChangeSpec := { name := "polysRoots", fn := fun _ => fun
  | [d] => { results := [.lit (.bool false)], args := [d] }
  | _ => none }
def PolysRootsWrongFalsely : Prop := polysRootsRow.holds Try.pinned (OpenSpec.ofChange polysRootsWrong)

/-- 'culletlaw04.PolysDivides': WHATEVER THE INPUT: true; the input reads as it did. -/
def polysDividesSpec : ChangeSpec := { name := "polysDivides", fn := fun _ => fun
  | [d] => { results := [.lit (.bool true)], args := [d] }
  | _ => none }
def polysDividesRow : OpenClaim := { program := "ytcdagkcchfibjaa", sum := "16cb0bc0c9250f396ac08fff161fcd8536a2be3d5125d244dd11cd3d4c7f1ae7", func := "cullet/culletlaw04.PolysDivides", spec := "polysDivides", unfollowed := true, recurses := true, apart := false }
def PolysDividesSaid : Prop := polysDividesRow.holds Try.pinned (OpenSpec.ofChange polysDividesSpec)

/-- ITS FALSE NEIGHBOUR: 'it returns false'. Refute it at one input. -/
def polysDividesWrong : ChangeSpec := { name := "polysDivides", fn := fun _ => fun
  | [d] => { results := [.lit (.bool false)], args := [d] }
  | _ => none }
def PolysDividesWrongFalsely : Prop := polysDividesRow.holds Try.pinned (OpenSpec.ofChange polysDividesWrong)

/-- 'culletlaw04.PolysEuclid': WHATEVER THE INPUT: true; the input reads as it did. -/
def polysEuclidSpec : ChangeSpec := { name := "polysEuclid", fn := fun _ => fun
  | [d] => { results := [.lit (.bool true)], args := [d] }
  | _ => none }
def polysEuclidRow : OpenClaim := { program := "ytcdagkcchfibjaa", sum := "16cb0bc0c9250f396ac08fff161fcd8536a2be3d5125d244dd11cd3d4c7f1ae7", func := "cullet/culletlaw04.PolysEuclid", spec := "polysEuclid", unfollowed := true, recurses := true, apart := false }
def PolysEuclidSaid : Prop := polysEuclidRow.holds Try.pinned (OpenSpec.ofChange polysEuclidSpec)

/-- ITS FALSE NEIGHBOUR: 'it returns false'. Refute it at one input. -/
def polysEuclidWrong : ChangeSpec := { name := "polysEuclid", fn := fun _ => fun
  | [d] => { results := [.lit (.bool false)], args := [d] }
  | _ => none }
def PolysEuclidWrongFalsely : Prop := polysEuclidRow.holds Try.pinned (OpenSpec.ofChange polysEuclidWrong)

/-- 'culletlaw04.PolysNil': WHATEVER THE INPUT: true; the input reads as it did. -/
def polysNilSpec : ChangeSpec := { name := "polysNil", fn := fun _ => fun
  | [d1, d2, d3] => { results := [.lit (.bool true)], args := [d1, d2, d3] }
  | _ => none }
def polysNilRow : OpenClaim := { program := "ytcdagkcchfibjaa", sum := "16cb0bc0c9250f396ac08fff161fcd8536a2be3d5125d244dd11cd3d4c7f1ae7", func := "cullet/culletlaw04.PolysNil", spec := "polysNil", unfollowed := true, recurses := true, apart := false }
def PolysNilSaid : Prop := polysNilRow.holds Try.pinned (OpenSpec.ofChange polysNilSpec)

/-- ITS FALSE NEIGHBOUR: 'it returns false'. Refute it at one input. -/
def polysNilWrong : ChangeSpec := { name := "polysNil", fn := fun _ => fun
  | [d1, d2, d3] => { results := [.lit (.bool false)], args := [d1, d2, d3] }
  | _ => none }
def PolysNilWrongFalsely : Prop := polysNilRow.holds Try.pinned (OpenSpec.ofChange polysNilWrong)

/-- 'culletlaw04.PolysMemory': WHATEVER THE INPUT: true; the input reads as it did. -/
def polysMemorySpec : ChangeSpec := { name := "polysMemory", fn := fun _ => fun
  | [d] => { results := [.lit (.bool true)], args := [d] }
  | _ => none }
def polysMemoryRow : OpenClaim := { program := "ytcdagkcchfibjaa", sum := "16cb0bc0c9250f396ac08fff161fcd8536a2be3d5125d244dd11cd3d4c7f1ae7", func := "cullet/culletlaw04.PolysMemory", spec := "polysMemory", unfollowed := true, recurses := true, apart := false }
def PolysMemorySaid : Prop := polysMemoryRow.holds Try.pinned (OpenSpec.ofChange polysMemorySpec)

/-- ITS FALSE NEIGHBOUR: 'it returns false'. Refute it at one input. -/
def polysMemoryWrong : ChangeSpec := { name := "polysMemory", fn := fun _ => fun
  | [d] => { results := [.lit (.bool false)], args := [d] }
  | _ => none }
def PolysMemoryWrongFalsely : Prop := polysMemoryRow.holds Try.pinned (OpenSpec.ofChange polysMemoryWrong)

/- THE SECOND FORM. 'bulk': how many values and letters a reading holds, each counted each time it is reached (what is shared counts as often as it is met; a slice's spare places count too). A statement '..UptoSaid' is the law's where the arguments, and the package variables that the reading takes, are together of bulk at most 1048576: NARROWER than '..Said'. Prove '..Said' where nothing that the law and all that it calls make is longer than what came in: it says more and counts as full. Else prove '..UptoSaid'. A law counts once. -/
mutual
def uptoBulk {H : Type} : DataW H → Nat
  | .lit (.string bytes) => bytes.length + 1
  | .lit _ => 1
  | .nil => 1
  | .ptr d => uptoBulk d + 1
  | .slice elems spare => uptoBulkAll elems + uptoBulkAll spare + 1
  | .agg parts => uptoBulkAll parts + 1
  | .iface _ d => uptoBulk d + 1
  | .map entries => uptoBulkEntries entries + 1
  | .held _ => 1
def uptoBulkAll {H : Type} : List (DataW H) → Nat
  | [] => 0
  | d :: r => uptoBulk d + uptoBulkAll r
def uptoBulkEntries {H : Type} : List (Lit × DataW H) → Nat
  | [] => 0
  | x :: r => uptoBulkEntry x + uptoBulkEntries r
def uptoBulkEntry {H : Type} : Lit × DataW H → Nat
  | (.string bytes, d) => bytes.length + uptoBulk d + 1
  | (_, d) => uptoBulk d + 1
 end
def uptoSmall : (H : Type) → List (DataW H) → Bool := fun _ ds => decide (uptoBulkAll ds ≤ 1048576)
def OpenSpec.upto (s : _root_.Go.ChangeSpec) : _root_.Go.OpenSpec := { _root_.Go.OpenSpec.ofChange s with cond := some uptoSmall }

/-- 'culletlaw04.PolysNames', WHERE WHAT IT READS IS OF BULK AT MOST 1048576: true; the input reads as it did. -/
def polysNamesUptoRow : OpenClaim := { program := "ytcdagkcchfibjaa", sum := "16cb0bc0c9250f396ac08fff161fcd8536a2be3d5125d244dd11cd3d4c7f1ae7", func := "cullet/culletlaw04.PolysNames", spec := "polysNames", unfollowed := true, recurses := true, apart := false, narrowed := true }
def PolysNamesUptoSaid : Prop := polysNamesUptoRow.holds Try.pinned (OpenSpec.upto polysNamesSpec)

/-- 'culletlaw04.PolysVanish', WHERE WHAT IT READS IS OF BULK AT MOST 1048576: true; the input reads as it did. -/
def polysVanishUptoRow : OpenClaim := { program := "ytcdagkcchfibjaa", sum := "16cb0bc0c9250f396ac08fff161fcd8536a2be3d5125d244dd11cd3d4c7f1ae7", func := "cullet/culletlaw04.PolysVanish", spec := "polysVanish", unfollowed := true, recurses := true, apart := false, narrowed := true }
def PolysVanishUptoSaid : Prop := polysVanishUptoRow.holds Try.pinned (OpenSpec.upto polysVanishSpec)

/-- 'culletlaw04.PolysThrough', WHERE WHAT IT READS IS OF BULK AT MOST 1048576: true; the input reads as it did. -/
def polysThroughUptoRow : OpenClaim := { program := "ytcdagkcchfibjaa", sum := "16cb0bc0c9250f396ac08fff161fcd8536a2be3d5125d244dd11cd3d4c7f1ae7", func := "cullet/culletlaw04.PolysThrough", spec := "polysThrough", unfollowed := true, recurses := true, apart := false, narrowed := true }
def PolysThroughUptoSaid : Prop := polysThroughUptoRow.holds Try.pinned (OpenSpec.upto polysThroughSpec)

/-- 'culletlaw04.PolysLeibniz', WHERE WHAT IT READS IS OF BULK AT MOST 1048576: true; the input reads as it did. -/
def polysLeibnizUptoRow : OpenClaim := { program := "ytcdagkcchfibjaa", sum := "16cb0bc0c9250f396ac08fff161fcd8536a2be3d5125d244dd11cd3d4c7f1ae7", func := "cullet/culletlaw04.PolysLeibniz", spec := "polysLeibniz", unfollowed := true, recurses := true, apart := false, narrowed := true }
def PolysLeibnizUptoSaid : Prop := polysLeibnizUptoRow.holds Try.pinned (OpenSpec.upto polysLeibnizSpec)

/-- 'culletlaw04.PolysRoots', WHERE WHAT IT READS IS OF BULK AT MOST 1048576: true; the input reads as it did. -/
def polysRootsUptoRow : OpenClaim := { program := "ytcdagkcchfibjaa", sum := "16cb0bc0c9250f396ac08fff161fcd8536a2be3d5125d244dd11cd3d4c7f1ae7", func := "cullet/culletlaw04.PolysRoots", spec := "polysRoots", unfollowed := true, recurses := true, apart := false, narrowed := true }
def PolysRootsUptoSaid : Prop := polysRootsUptoRow.holds Try.pinned (OpenSpec.upto polysRootsSpec)

/-- 'culletlaw04.PolysDivides', WHERE WHAT IT READS IS OF BULK AT MOST 1048576: true; the input reads as it did. -/
def polysDividesUptoRow : OpenClaim := { program := "ytcdagkcchfibjaa", sum := "16cb0bc0c9250f396ac08fff161fcd8536a2be3d5125d244dd11cd3d4c7f1ae7", func := "cullet/culletlaw04.PolysDivides", spec := "polysDivides", unfollowed := true, recurses := true, apart := false, narrowed := true }
def PolysDividesUptoSaid : Prop := polysDividesUptoRow.holds Try.pinned (OpenSpec.upto polysDividesSpec)

/-- 'culletlaw04.PolysEuclid', WHERE WHAT IT READS IS OF BULK AT MOST 1048576: true; the input reads as it did. -/
def polysEuclidUptoRow : OpenClaim := { program := "ytcdagkcchfibjaa", sum := "16cb0bc0c9250f396ac08fff161fcd8536a2be3d5125d244dd11cd3d4c7f1ae7", func := "cullet/culletlaw04.PolysEuclid", spec := "polysEuclid", unfollowed := true, recurses := true, apart := false, narrowed := true }
def PolysEuclidUptoSaid : Prop := polysEuclidUptoRow.holds Try.pinned (OpenSpec.upto polysEuclidSpec)

/-- 'culletlaw04.PolysNil', WHERE WHAT IT READS IS OF BULK AT MOST 1048576: true; the input reads as it did. -/
def polysNilUptoRow : OpenClaim := { program := "ytcdagkcchfibjaa", sum := "16cb0bc0c9250f396ac08fff161fcd8536a2be3d5125d244dd11cd3d4c7f1ae7", func := "cullet/culletlaw04.PolysNil", spec := "polysNil", unfollowed := true, recurses := true, apart := false, narrowed := true }
def PolysNilUptoSaid : Prop := polysNilUptoRow.holds Try.pinned (OpenSpec.upto polysNilSpec)

/-- 'culletlaw04.PolysMemory', WHERE WHAT IT READS IS OF BULK AT MOST 1048576: true; the input reads as it did. -/
def polysMemoryUptoRow : OpenClaim := { program := "ytcdagkcchfibjaa", sum := "16cb0bc0c9250f396ac08fff161fcd8536a2be3d5125d244dd11cd3d4c7f1ae7", func := "cullet/culletlaw04.PolysMemory", spec := "polysMemory", unfollowed := true, recurses := true, apart := false, narrowed := true }
def PolysMemoryUptoSaid : Prop := polysMemoryUptoRow.holds Try.pinned (OpenSpec.upto polysMemorySpec)

end Rows
end Go.Proofs.Ytcdagkcchfibjaa
