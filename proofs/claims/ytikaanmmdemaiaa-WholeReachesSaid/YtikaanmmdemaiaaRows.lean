/-
  No cell of these rows narrows 'for every input' (looked for: loops, veiled, ifaces, maps, wideKeys, modest, calm, conditions, laid).
  DERIVED. THE GIVEN ROWS OF THIS SEAT. 5 by the template 'for every input the law returns true; each argument reads behind the call as it read before'; 0 by the template 'total and deterministic' (their statements: YtikaanmmdemaiaaTotals.lean).
  GIVEN WITH THE SEED: the statements are not yours to turn. If you find one false, say at which input.
  Laid BY PROGRAM, IN A SANDBOX (cutbox-rows.mjs): the forced cells as the released guide's own fill.sh prints them over the translation eaa008aad5d114e0… (all of the seat's roots in one cut). By AI agents, Wed Nov 11 2026. No macro, syntax, notation, axiom, sorry.
-/
import Derived.Test.YtikaanmmdemaiaaChecked
import GoSem.Claim
import GoSem.ClaimJoined
import GoSem.ClaimMapViews
import Derived.JoinedTies
import Derived.KernelRfl
namespace Go.Proofs.Ytikaanmmdemaiaa
/- THE CELL 'sum', in the pinned program and in every row, IS THE sha256 OF THE DUMP (.gsa) THAT YtikaanmmdemaiaaProg.lean LOADS. Nothing in Lean hashes anything: it is a label: what it is worth is what the hold of that sum in a sandbox is worth. -/
noncomputable def Try.pinned : Pinned := { name := "ytikaanmmdemaiaa", sum := "eaa008aad5d114e02842d17ec3d921336d7b258c18b0c8756f7ec0ac7178bab1", checked := Try.checked }
namespace Rows
def none {H : Type} : Left H := { results := [], args := [] }

/-- 'cullettop.WholeReaches': WHATEVER THE INPUT: true; the input reads as it did. -/
def wholeReachesSpec : ChangeSpec := { name := "wholeReaches", fn := fun _ => fun
  | [d1, d2, d3] => { results := [.lit (.bool true)], args := [d1, d2, d3] }
  | _ => none }
def wholeReachesRow : OpenClaim := { program := "ytikaanmmdemaiaa", sum := "eaa008aad5d114e02842d17ec3d921336d7b258c18b0c8756f7ec0ac7178bab1", func := "cullet/cullettop.WholeReaches", spec := "wholeReaches", apart := false }
def WholeReachesSaid : Prop := wholeReachesRow.holds Try.pinned (OpenSpec.ofChange wholeReachesSpec)

/-- ITS FALSE NEIGHBOUR: 'it returns false'. Refute it at one input. -/
def wholeReachesWrong : ChangeSpec := { name := "wholeReaches", fn := fun _ => fun
  | [d1, d2, d3] => { results := [.lit (.bool false)], args := [d1, d2, d3] }
  | _ => none }
def WholeReachesWrongFalsely : Prop := wholeReachesRow.holds Try.pinned (OpenSpec.ofChange wholeReachesWrong)

/-- 'cullettop.WholeVanishes': WHATEVER THE INPUT: true; the input reads as it did. -/
def wholeVanishesSpec : ChangeSpec := { name := "wholeVanishes", fn := fun _ => fun
  | [d1, d2] => { results := [.lit (.bool true)], args := [d1, d2] }
  | _ => none }
def wholeVanishesRow : OpenClaim := { program := "ytikaanmmdemaiaa", sum := "eaa008aad5d114e02842d17ec3d921336d7b258c18b0c8756f7ec0ac7178bab1", func := "cullet/cullettop.WholeVanishes", spec := "wholeVanishes", unfollowed := true, recurses := true, apart := false }
def WholeVanishesSaid : Prop := wholeVanishesRow.holds Try.pinned (OpenSpec.ofChange wholeVanishesSpec)

/-- ITS FALSE NEIGHBOUR: 'it returns false'. Refute it at one input. -/
def wholeVanishesWrong : ChangeSpec := { name := "wholeVanishes", fn := fun _ => fun
  | [d1, d2] => { results := [.lit (.bool false)], args := [d1, d2] }
  | _ => none }
def WholeVanishesWrongFalsely : Prop := wholeVanishesRow.holds Try.pinned (OpenSpec.ofChange wholeVanishesWrong)

/-- 'cullettop.WholeDerives': WHATEVER THE INPUT: true; the input reads as it did. -/
def wholeDerivesSpec : ChangeSpec := { name := "wholeDerives", fn := fun _ => fun
  | [d] => { results := [.lit (.bool true)], args := [d] }
  | _ => none }
def wholeDerivesRow : OpenClaim := { program := "ytikaanmmdemaiaa", sum := "eaa008aad5d114e02842d17ec3d921336d7b258c18b0c8756f7ec0ac7178bab1", func := "cullet/cullettop.WholeDerives", spec := "wholeDerives", unfollowed := true, recurses := true, apart := false }
def WholeDerivesSaid : Prop := wholeDerivesRow.holds Try.pinned (OpenSpec.ofChange wholeDerivesSpec)

/-- ITS FALSE NEIGHBOUR: 'it returns false'. Refute it at one input. -/
def wholeDerivesWrong : ChangeSpec := { name := "wholeDerives", fn := fun _ => fun
  | [d] => { results := [.lit (.bool false)], args := [d] }
  | _ => none }
def WholeDerivesWrongFalsely : Prop := wholeDerivesRow.holds Try.pinned (OpenSpec.ofChange wholeDerivesWrong)

/-- 'cullettop.WholeFactors': WHATEVER THE INPUT: true; the input reads as it did. -/
def wholeFactorsSpec : ChangeSpec := { name := "wholeFactors", fn := fun _ => fun
  | [d] => { results := [.lit (.bool true)], args := [d] }
  | _ => none }
def wholeFactorsRow : OpenClaim := { program := "ytikaanmmdemaiaa", sum := "eaa008aad5d114e02842d17ec3d921336d7b258c18b0c8756f7ec0ac7178bab1", func := "cullet/cullettop.WholeFactors", spec := "wholeFactors", unfollowed := true, recurses := true, apart := false }
def WholeFactorsSaid : Prop := wholeFactorsRow.holds Try.pinned (OpenSpec.ofChange wholeFactorsSpec)

/-- ITS FALSE NEIGHBOUR: 'it returns false'. Refute it at one input. -/
def wholeFactorsWrong : ChangeSpec := { name := "wholeFactors", fn := fun _ => fun
  | [d] => { results := [.lit (.bool false)], args := [d] }
  | _ => none }
def WholeFactorsWrongFalsely : Prop := wholeFactorsRow.holds Try.pinned (OpenSpec.ofChange wholeFactorsWrong)

/-- 'cullettop.WholeTransforms': WHATEVER THE INPUT: true; the input reads as it did. -/
def wholeTransformsSpec : ChangeSpec := { name := "wholeTransforms", fn := fun _ => fun
  | [d1, d2] => { results := [.lit (.bool true)], args := [d1, d2] }
  | _ => none }
def wholeTransformsRow : OpenClaim := { program := "ytikaanmmdemaiaa", sum := "eaa008aad5d114e02842d17ec3d921336d7b258c18b0c8756f7ec0ac7178bab1", func := "cullet/cullettop.WholeTransforms", spec := "wholeTransforms", unfollowed := true, recurses := true, apart := false }
def WholeTransformsSaid : Prop := wholeTransformsRow.holds Try.pinned (OpenSpec.ofChange wholeTransformsSpec)

/-- ITS FALSE NEIGHBOUR: 'it returns false'. Refute it at one input. -/
def wholeTransformsWrong : ChangeSpec := { name := "wholeTransforms", fn := fun _ => fun
  | [d1, d2] => { results := [.lit (.bool false)], args := [d1, d2] }
  | _ => none }
def WholeTransformsWrongFalsely : Prop := wholeTransformsRow.holds Try.pinned (OpenSpec.ofChange wholeTransformsWrong)

/- THE SECOND FORM. 'bulk': how many values and letters a reading holds, each counted each time it is reached (what is shared counts as often as it is met; a slice's spare places count too). A statement '..UptoSaid' is the law's where the arguments, and the package variables that the reading takes, are together of bulk at most 1048576: NARROWER than '..Said'. Prove '..Said' where nothing that the law and all that it calls make is longer than what came in: it says more and counts as full. Else prove '..UptoSaid'. A law counts once. -/
mutual
def uptoBulk {H : Type} : DataW H → Nat
  | .lit (.string bytes) => bytes.length + 1
  | .lit _ => 1
  | .nil => 1
  | .ptr d => uptoBulk d + 1
  | .slice elems spare => uptoBulkAll elems + uptoBulkAll spare + 1
  | .agg parts => uptoBulkAll parts + 1
  | .iface _ d => uptoBulk d + 1
  | .map entries => uptoBulkEntries entries + 1
  | .held _ => 1
def uptoBulkAll {H : Type} : List (DataW H) → Nat
  | [] => 0
  | d :: r => uptoBulk d + uptoBulkAll r
def uptoBulkEntries {H : Type} : List (Lit × DataW H) → Nat
  | [] => 0
  | x :: r => uptoBulkEntry x + uptoBulkEntries r
def uptoBulkEntry {H : Type} : Lit × DataW H → Nat
  | (.string bytes, d) => bytes.length + uptoBulk d + 1
  | (_, d) => uptoBulk d + 1
 end
def uptoSmall : (H : Type) → List (DataW H) → Bool := fun _ ds => decide (uptoBulkAll ds ≤ 1048576)
def OpenSpec.upto (s : _root_.Go.ChangeSpec) : _root_.Go.OpenSpec := { _root_.Go.OpenSpec.ofChange s with cond := some uptoSmall }

/-- 'cullettop.WholeReaches', WHERE WHAT IT READS IS OF BULK AT MOST 1048576: true; the input reads as it did. -/
def wholeReachesUptoRow : OpenClaim := { program := "ytikaanmmdemaiaa", sum := "eaa008aad5d114e02842d17ec3d921336d7b258c18b0c8756f7ec0ac7178bab1", func := "cullet/cullettop.WholeReaches", spec := "wholeReaches", apart := false, narrowed := true }
def WholeReachesUptoSaid : Prop := wholeReachesUptoRow.holds Try.pinned (OpenSpec.upto wholeReachesSpec)

/-- 'cullettop.WholeVanishes', WHERE WHAT IT READS IS OF BULK AT MOST 1048576: true; the input reads as it did. -/
def wholeVanishesUptoRow : OpenClaim := { program := "ytikaanmmdemaiaa", sum := "eaa008aad5d114e02842d17ec3d921336d7b258c18b0c8756f7ec0ac7178bab1", func := "cullet/cullettop.WholeVanishes", spec := "wholeVanishes", unfollowed := true, recurses := true, apart := false, narrowed := true }
def WholeVanishesUptoSaid : Prop := wholeVanishesUptoRow.holds Try.pinned (OpenSpec.upto wholeVanishesSpec)

/-- 'cullettop.WholeDerives', WHERE WHAT IT READS IS OF BULK AT MOST 1048576: true; the input reads as it did. -/
def wholeDerivesUptoRow : OpenClaim := { program := "ytikaanmmdemaiaa", sum := "eaa008aad5d114e02842d17ec3d921336d7b258c18b0c8756f7ec0ac7178bab1", func := "cullet/cullettop.WholeDerives", spec := "wholeDerives", unfollowed := true, recurses := true, apart := false, narrowed := true }
def WholeDerivesUptoSaid : Prop := wholeDerivesUptoRow.holds Try.pinned (OpenSpec.upto wholeDerivesSpec)

/-- 'cullettop.WholeFactors', WHERE WHAT IT READS IS OF BULK AT MOST 1048576: true; the input reads as it did. -/
def wholeFactorsUptoRow : OpenClaim := { program := "ytikaanmmdemaiaa", sum := "eaa008aad5d114e02842d17ec3d921336d7b258c18b0c8756f7ec0ac7178bab1", func := "cullet/cullettop.WholeFactors", spec := "wholeFactors", unfollowed := true, recurses := true, apart := false, narrowed := true }
def WholeFactorsUptoSaid : Prop := wholeFactorsUptoRow.holds Try.pinned (OpenSpec.upto wholeFactorsSpec)

/-- 'cullettop.WholeTransforms', WHERE WHAT IT READS IS OF BULK AT MOST 1048576: true; the input reads as it did. -/
def wholeTransformsUptoRow : OpenClaim := { program := "ytikaanmmdemaiaa", sum := "eaa008aad5d114e02842d17ec3d921336d7b258c18b0c8756f7ec0ac7178bab1", func := "cullet/cullettop.WholeTransforms", spec := "wholeTransforms", unfollowed := true, recurses := true, apart := false, narrowed := true }
def WholeTransformsUptoSaid : Prop := wholeTransformsUptoRow.holds Try.pinned (OpenSpec.upto wholeTransformsSpec)

end Rows
end Go.Proofs.Ytikaanmmdemaiaa
