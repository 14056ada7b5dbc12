-- Written by a program of this session (wip/drive.py) for this seat.
import Derived.Test.YtcnabolainmaeaaProg
import Derived.Below
import Derived.Deep.Draws
import Derived.Deep.AppendLies
import Derived.Maps.AppendAt
import Derived.OwnWalk
import Derived.Laws.BytesArg
import Derived.Laws.MakeOwn
import Derived.Laws.OwnMore
import Derived.Deep.OwnRows
import Derived.Tactics
import Derived.Lib.ConvBytes
import Derived.Laws.Slices
import Derived.WalkKit
import Derived.KernelRfl
import Derived.RowKit3
import Derived.Deep.LoopGhost
import Derived.Deep.QuietTactic
import Derived.BigQuiet
import Derived.WideLaws
import Derived.Deep.DeepCutAuto
import Derived.Deep.CutBlock
import Derived.Deep.RegionHeld3
import Derived.Laws.Rows
import Derived.Lib.AppendStr
import Derived.ArgAppend
import Derived.Laws.IdiomCopy
import Derived.OrdersHeld
import Derived.Laws.BitsLemmas
import Derived.RowKit
import Derived.Test.YtcnabolainmaeaaWCopy
import Derived.Test.YtcnabolainmaeaaWWords
import Derived.Test.YtcnabolainmaeaaWLast
import Derived.Test.YtcnabolainmaeaaWTab
import Derived.Test.YtcnabolainmaeaaWFour
import Derived.Test.YtcnabolainmaeaaWQPut
import Derived.Test.YtcnabolainmaeaaWApart
import Derived.Test.YtcnabolainmaeaaWArr
import Derived.Test.YtcnabolainmaeaaWZeros
import Derived.Test.YtcnabolainmaeaaWFoot
import Derived.Test.YtcnabolainmaeaaWKept
import Derived.Test.YtcnabolainmaeaaWShare
import Derived.Test.YtcnabolainmaeaaWN
import Derived.Test.YtcnabolainmaeaaWFootNe
import Derived.Test.YtcnabolainmaeaaWAt
import Derived.Test.YtcnabolainmaeaaWEqStruct
import Derived.Test.YtcnabolainmaeaaWRepsOne
import Derived.Test.YtcnabolainmaeaaWInv
import Derived.Test.YtcnabolainmaeaaWInvWords
import Derived.Test.YtcnabolainmaeaaWGuard
import Derived.Test.YtcnabolainmaeaaWNEv
import Derived.Test.YtcnabolainmaeaaWMore
namespace Go.Proofs.Ytcnabolainmaeaa.PA
open Go.RowKit Go.Proofs.YtcnabolainmaeaaW.PrintWords Go.Proofs.YtcnabolainmaeaaW.PrintLast Go.Proofs.YtcnabolainmaeaaW.PrintMore
attribute [local go_sem] max2_int min2_int max_two min_two max_three min_three max_four min_four   -- for this text's walks alone
set_option linter.unusedVariables false
set_option linter.unusedSimpArgs false



def errW : Option Int → Value
  | none => .nilIface
  | some c => .iface 0 (.int .i64 c)
theorem errW_none : errW none = .nilIface := rfl
theorem errW_some (c : Int) : errW (some c) = .iface 0 (.int .i64 c) := rfl

theorem size_of_info {e : TypeId} {z : Option Value} {b : Nat} (h : (Try.prog.info? e).map (fun i => (i.zero, i.size, i.bytes)) = some (z, 1, b)) : (Try.prog.info? e).map (·.size) = some 1 := by
  obtain ⟨i_, hi_, hs_⟩ := Option.map_eq_some_iff.1 h
  simp only [Prod.mk.injEq] at hs_
  rw [hi_, Option.map_some, hs_.2.1]
theorem info22 : (Try.prog.info? 22).map (fun i => (i.zero, i.size, i.bytes)) = some (some (.int .u16 0), 1, 2) := by kernel_rfl
-- the values' own types

end Go.Proofs.Ytcnabolainmaeaa.PA
