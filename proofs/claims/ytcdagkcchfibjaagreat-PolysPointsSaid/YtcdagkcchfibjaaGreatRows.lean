/-
  No cell of these rows narrows 'for every input' (looked for: loops, veiled, ifaces, maps, wideKeys, modest, calm, conditions, laid).
  DERIVED. THE GIVEN ROWS OF THIS SEAT. 4 by the template 'for every input the law returns true; each argument reads behind the call as it read before'; 0 by the template 'total and deterministic' (their statements: YtcdagkcchfibjaaGreatTotals.lean).
  GIVEN WITH THE SEED: the statements are not yours to turn. If you find one false, say at which input.
  Laid BY PROGRAM, IN A SANDBOX (cutbox-rows.mjs): the forced cells as the released guide's own fill.sh prints them over the translation 28ddc0b587e25eea… (all of the seat's roots in one cut). By AI agents, Wed Nov 11 2026. No macro, syntax, notation, axiom, sorry.
-/
import Derived.Test.YtcdagkcchfibjaaGreatChecked
import GoSem.Claim
import GoSem.ClaimJoined
import GoSem.ClaimMapViews
import Derived.JoinedTies
import Derived.KernelRfl
namespace Go.Proofs.YtcdagkcchfibjaaGreat
/- THE CELL 'sum', in the pinned program and in every row, IS THE sha256 OF THE DUMP (.gsa) THAT YtcdagkcchfibjaaGreatProg.lean LOADS. Nothing in Lean hashes anything: it is a label: what it is worth is what the hold of that sum in a sandbox is worth. -/
noncomputable def Tryz.pinned : Pinned := { name := "ytcdagkcchfibjaagreat", sum := "28ddc0b587e25eea2af997acde6367fe26b27dd972db744659f1afcb57d4b2b6", checked := Tryz.checked }
namespace Rows
def none {H : Type} : Left H := { results := [], args := [] }

/-- 'culletlaw04.PolysSimple': WHATEVER THE INPUT: true; the input reads as it did. -/
def polysSimpleSpec : ChangeSpec := { name := "polysSimple", fn := fun _ => fun
  | [d] => { results := [.lit (.bool true)], args := [d] }
  | _ => none }
def polysSimpleRow : OpenClaim := { program := "ytcdagkcchfibjaagreat", sum := "28ddc0b587e25eea2af997acde6367fe26b27dd972db744659f1afcb57d4b2b6", func := "cullet/culletlaw04.PolysSimple", spec := "polysSimple", unfollowed := true, recurses := true, apart := false }
def PolysSimpleSaid : Prop := polysSimpleRow.holds Tryz.pinned (OpenSpec.ofChange polysSimpleSpec)

/-- ITS FALSE NEIGHBOUR: 'it returns false'. Refute it at one input. -/
def polysSimpleWrong : ChangeSpec := { name := "polysSimple", fn := fun _ => fun
  | [d] => { results := [.lit (.bool false)], args := [d] }
  | _ => none }
def PolysSimpleWrongFalsely : Prop := polysSimpleRow.holds Tryz.pinned (OpenSpec.ofChange polysSimpleWrong)

/-- 'culletlaw04.PolysProducts': WHATEVER THE INPUT: true; the input reads as it did. -/
def polysProductsSpec : ChangeSpec := { name := "polysProducts", fn := fun _ => fun
  | [d] => { results := [.lit (.bool true)], args := [d] }
  | _ => none }
def polysProductsRow : OpenClaim := { program := "ytcdagkcchfibjaagreat", sum := "28ddc0b587e25eea2af997acde6367fe26b27dd972db744659f1afcb57d4b2b6", func := "cullet/culletlaw04.PolysProducts", spec := "polysProducts", unfollowed := true, recurses := true, apart := false }
def PolysProductsSaid : Prop := polysProductsRow.holds Tryz.pinned (OpenSpec.ofChange polysProductsSpec)

/-- ITS FALSE NEIGHBOUR: 'it returns false'. Refute it at one input. -/
def polysProductsWrong : ChangeSpec := { name := "polysProducts", fn := fun _ => fun
  | [d] => { results := [.lit (.bool false)], args := [d] }
  | _ => none }
def PolysProductsWrongFalsely : Prop := polysProductsRow.holds Tryz.pinned (OpenSpec.ofChange polysProductsWrong)

/-- 'culletlaw04.PolysPoints': WHATEVER THE INPUT: true; the input reads as it did. -/
def polysPointsSpec : ChangeSpec := { name := "polysPoints", fn := fun _ => fun
  | [d] => { results := [.lit (.bool true)], args := [d] }
  | _ => none }
def polysPointsRow : OpenClaim := { program := "ytcdagkcchfibjaagreat", sum := "28ddc0b587e25eea2af997acde6367fe26b27dd972db744659f1afcb57d4b2b6", func := "cullet/culletlaw04.PolysPoints", spec := "polysPoints", unfollowed := true, recurses := true, apart := false }
def PolysPointsSaid : Prop := polysPointsRow.holds Tryz.pinned (OpenSpec.ofChange polysPointsSpec)

/-- ITS FALSE NEIGHBOUR: 'it returns false'. Refute it at one input. -/
def polysPointsWrong : ChangeSpec := { name := "polysPoints", fn := fun _ => fun
  | [d] => { results := [.lit (.bool false)], args := [d] }
  | _ => none }
def PolysPointsWrongFalsely : Prop := polysPointsRow.holds Tryz.pinned (OpenSpec.ofChange polysPointsWrong)

/-- 'culletlaw04.PolysPartials': WHATEVER THE INPUT: true; the input reads as it did. -/
def polysPartialsSpec : ChangeSpec := { name := "polysPartials", fn := fun _ => fun
  | [d] => { results := [.lit (.bool true)], args := [d] }
  | _ => none }
def polysPartialsRow : OpenClaim := { program := "ytcdagkcchfibjaagreat", sum := "28ddc0b587e25eea2af997acde6367fe26b27dd972db744659f1afcb57d4b2b6", func := "cullet/culletlaw04.PolysPartials", spec := "polysPartials", unfollowed := true, recurses := true, apart := false }
def PolysPartialsSaid : Prop := polysPartialsRow.holds Tryz.pinned (OpenSpec.ofChange polysPartialsSpec)

/-- ITS FALSE NEIGHBOUR: 'it returns false'. Refute it at one input. -/
def polysPartialsWrong : ChangeSpec := { name := "polysPartials", fn := fun _ => fun
  | [d] => { results := [.lit (.bool false)], args := [d] }
  | _ => none }
def PolysPartialsWrongFalsely : Prop := polysPartialsRow.holds Tryz.pinned (OpenSpec.ofChange polysPartialsWrong)

/- THE SECOND FORM. 'bulk': how many values and letters a reading holds, each counted each time it is reached (what is shared counts as often as it is met; a slice's spare places count too). A statement '..UptoSaid' is the law's where the arguments, and the package variables that the reading takes, are together of bulk at most 1048576: NARROWER than '..Said'. Prove '..Said' where nothing that the law and all that it calls make is longer than what came in: it says more and counts as full. Else prove '..UptoSaid'. A law counts once. -/
mutual
def uptoBulk {H : Type} : DataW H → Nat
  | .lit (.string bytes) => bytes.length + 1
  | .lit _ => 1
  | .nil => 1
  | .ptr d => uptoBulk d + 1
  | .slice elems spare => uptoBulkAll elems + uptoBulkAll spare + 1
  | .agg parts => uptoBulkAll parts + 1
  | .iface _ d => uptoBulk d + 1
  | .map entries => uptoBulkEntries entries + 1
  | .held _ => 1
def uptoBulkAll {H : Type} : List (DataW H) → Nat
  | [] => 0
  | d :: r => uptoBulk d + uptoBulkAll r
def uptoBulkEntries {H : Type} : List (Lit × DataW H) → Nat
  | [] => 0
  | x :: r => uptoBulkEntry x + uptoBulkEntries r
def uptoBulkEntry {H : Type} : Lit × DataW H → Nat
  | (.string bytes, d) => bytes.length + uptoBulk d + 1
  | (_, d) => uptoBulk d + 1
 end
def uptoSmall : (H : Type) → List (DataW H) → Bool := fun _ ds => decide (uptoBulkAll ds ≤ 1048576)
def OpenSpec.upto (s : _root_.Go.ChangeSpec) : _root_.Go.OpenSpec := { _root_.Go.OpenSpec.ofChange s with cond := some uptoSmall }

/-- 'culletlaw04.PolysSimple', WHERE WHAT IT READS IS OF BULK AT MOST 1048576: true; the input reads as it did. -/
def polysSimpleUptoRow : OpenClaim := { program := "ytcdagkcchfibjaagreat", sum := "28ddc0b587e25eea2af997acde6367fe26b27dd972db744659f1afcb57d4b2b6", func := "cullet/culletlaw04.PolysSimple", spec := "polysSimple", unfollowed := true, recurses := true, apart := false, narrowed := true }
def PolysSimpleUptoSaid : Prop := polysSimpleUptoRow.holds Tryz.pinned (OpenSpec.upto polysSimpleSpec)

/-- 'culletlaw04.PolysProducts', WHERE WHAT IT READS IS OF BULK AT MOST 1048576: true; the input reads as it did. -/
def polysProductsUptoRow : OpenClaim := { program := "ytcdagkcchfibjaagreat", sum := "28ddc0b587e25eea2af997acde6367fe26b27dd972db744659f1afcb57d4b2b6", func := "cullet/culletlaw04.PolysProducts", spec := "polysProducts", unfollowed := true, recurses := true, apart := false, narrowed := true }
def PolysProductsUptoSaid : Prop := polysProductsUptoRow.holds Tryz.pinned (OpenSpec.upto polysProductsSpec)

/-- 'culletlaw04.PolysPoints', WHERE WHAT IT READS IS OF BULK AT MOST 1048576: true; the input reads as it did. -/
def polysPointsUptoRow : OpenClaim := { program := "ytcdagkcchfibjaagreat", sum := "28ddc0b587e25eea2af997acde6367fe26b27dd972db744659f1afcb57d4b2b6", func := "cullet/culletlaw04.PolysPoints", spec := "polysPoints", unfollowed := true, recurses := true, apart := false, narrowed := true }
def PolysPointsUptoSaid : Prop := polysPointsUptoRow.holds Tryz.pinned (OpenSpec.upto polysPointsSpec)

/-- 'culletlaw04.PolysPartials', WHERE WHAT IT READS IS OF BULK AT MOST 1048576: true; the input reads as it did. -/
def polysPartialsUptoRow : OpenClaim := { program := "ytcdagkcchfibjaagreat", sum := "28ddc0b587e25eea2af997acde6367fe26b27dd972db744659f1afcb57d4b2b6", func := "cullet/culletlaw04.PolysPartials", spec := "polysPartials", unfollowed := true, recurses := true, apart := false, narrowed := true }
def PolysPartialsUptoSaid : Prop := polysPartialsUptoRow.holds Tryz.pinned (OpenSpec.upto polysPartialsSpec)

end Rows
end Go.Proofs.YtcdagkcchfibjaaGreat
