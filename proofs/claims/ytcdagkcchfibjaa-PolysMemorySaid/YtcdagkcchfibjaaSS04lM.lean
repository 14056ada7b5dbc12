import Derived.Test.YtcdagkcchfibjaaProg
import Derived.Test.YtcdagkcchfibjaaFwTM
import Derived.Test.YtcdagkcchfibjaaSS04wM
import Derived.Test.YtcdagkcchfibjaaGfEM
import Derived.Test.YtcdagkcchfibjaaSS04gM
import Derived.Test.YtcdagkcchfibjaaGfSM
set_option linter.all false
set_option linter.unusedVariables false
set_option linter.unusedSimpArgs false
set_option maxRecDepth 100000
set_option maxHeartbeats 1000000
namespace Go.Proofs.Ytcdagkcchfibjaa.Fw
open Go Go.Fw Go.Proofs
attribute [local irreducible] stepI
end Go.Proofs.Ytcdagkcchfibjaa.Fw
namespace Go.Proofs.Ytcdagkcchfibjaa.Fw
open Go Go.Fw
theorem polys_Ring_w_Trim2_spec (w : World) (r s : Value) (l : List (El 16)) (hr : Ring_w w r) (h : Sl w s l) (hb : l.length ≤ 70368744175616) :
    CallV Try.prog 49 [r, s] w fun v w' => ∃ m, Ow w.heap.size w' v m ∧ tr m = m ∧ co m = co l ∧ m.length ≤ l.length ∧ RowKit.Below w.heap.size w w' :=
  (polys_Ring_w_Trim_spec w r s l hr h hb).mono fun v w' ⟨h1, h2⟩ => ⟨tr l, h1, tr_tr l, tr_co l, by rw [tr_len]; exact tln_le l, h2⟩
end Go.Proofs.Ytcdagkcchfibjaa.Fw

namespace Go.Proofs.Ytcdagkcchfibjaa.Fw
open Go Go.Fw
theorem polys_Ring_b_Trim2_spec (w : World) (r s : Value) (l : List (El 8)) (hr : Ring_b w r) (h : Sl w s l) (hb : l.length ≤ 70368744175616) :
    CallV Try.prog 50 [r, s] w fun v w' => ∃ m, Ow w.heap.size w' v m ∧ tr m = m ∧ co m = co l ∧ m.length ≤ l.length ∧ RowKit.Below w.heap.size w w' :=
  (polys_Ring_b_Trim_spec w r s l hr h hb).mono fun v w' ⟨h1, h2⟩ => ⟨tr l, h1, tr_tr l, tr_co l, by rw [tr_len]; exact tln_le l, h2⟩
end Go.Proofs.Ytcdagkcchfibjaa.Fw

namespace Go.Proofs.Ytcdagkcchfibjaa.Fw
open Go Go.Fw
end Go.Proofs.Ytcdagkcchfibjaa.Fw

set_option linter.unusedVariables false
set_option linter.unusedSimpArgs false
set_option maxRecDepth 100000
set_option maxHeartbeats 1000000
namespace Go.Proofs.Ytcdagkcchfibjaa.Fw
open Go Go.Fw Go.Proofs
attribute [local irreducible] stepI
def c_culletlaw04_awake : C := .seq (.ops [⟨0, (some 1), none, .box 25 (.t 0), []⟩, ⟨1, (some 2), none, .mov (.c (.bool false)), []⟩]) (.seq (.ops [⟨0, (some 6), none, .ldn 2 (.t 1), []⟩, ⟨1, (some 7), none, .bsl 28 2 [.int .u16 0] [(0, (1, .c (.int .u16 1))), (1, (1, .c (.int .u16 1)))], []⟩, ⟨2, (some 8), none, .bsl 28 2 [.int .u16 0] [(0, (1, .c (.int .u16 1))), (1, (1, .c (.int .u16 1)))], []⟩, ⟨3, (some 9), none, .call (.c (.func (.func 13) #[] #[])) [.t 6, .c (.bool false), .t 7, .t 8], []⟩, ⟨4, (some 5), none, .mov (.t 9), []⟩, ⟨5, (some 10), none, .ext (.t 5) 0, []⟩, ⟨6, (some 11), none, .ext (.t 5) 1, []⟩, ⟨7, (some 3), none, .mov (.t 10), []⟩, ⟨8, (some 4), none, .mov (.t 11), []⟩]) (.seq (.seq (.ops [⟨0, (some 12), none, .mov (.t 4), []⟩, ⟨1, (some 13), none, .bin .neq (.t 12) (.c (.int .i64 0)), []⟩, ⟨2, (some 14), none, .mov (.t 13), []⟩, ⟨3, (some 15), (some (14, false)), .mov (.t 3), []⟩, ⟨4, (some 16), (some (14, false)), .bsl 28 3 [.int .u16 0] [(0, (1, .c (.int .u16 1))), (1, (1, .c (.int .u16 0))), (2, (1, .c (.int .u16 1)))], []⟩, ⟨5, (some 17), (some (14, false)), .call (.c (.func (.func 15) #[] #[])) [.t 15, .t 16], []⟩, ⟨6, (some 18), (some (14, false)), .un .not (.t 17), []⟩, ⟨7, (some 19), none, .pick (.t 14) (.c (.bool true)) (.t 18), []⟩]) (.ite (.t 19) (.seq (.ops [⟨0, (some 2), none, .mov (.c (.bool false)), []⟩]) .ret) .skip)) (.seq (.ops [⟨0, (some 21), none, .ldn 2 (.t 1), []⟩, ⟨1, (some 22), none, .bsl 28 1 [.int .u16 0] [(0, (1, .c (.int .u16 32768)))], []⟩, ⟨2, (some 23), none, .bsl 28 1 [.int .u16 0] [(0, (1, .c (.int .u16 2)))], []⟩, ⟨3, (some 24), none, .call (.c (.func (.func 13) #[] #[])) [.t 21, .c (.bool true), .t 22, .t 23], []⟩, ⟨4, (some 20), none, .mov (.t 24), []⟩, ⟨5, (some 25), none, .ext (.t 20) 0, []⟩, ⟨6, (some 26), none, .ext (.t 20) 1, []⟩, ⟨7, (some 3), none, .mov (.t 25), []⟩, ⟨8, (some 4), none, .mov (.t 26), []⟩]) (.seq (.ops [⟨0, (some 27), none, .mov (.t 4), []⟩, ⟨1, (some 28), none, .bin .eql (.t 27) (.c (.int .i64 0)), []⟩, ⟨2, (some 29), none, .mov (.t 28), []⟩, ⟨3, (some 30), (some (29, true)), .mov (.t 3), []⟩, ⟨4, (some 31), (some (29, true)), .bsl 28 1 [.int .u16 0] [(0, (1, .c (.int .u16 45)))], []⟩, ⟨5, (some 32), (some (29, true)), .call (.c (.func (.func 15) #[] #[])) [.t 30, .t 31], []⟩, ⟨6, (some 33), none, .pick (.t 29) (.t 32) (.c (.bool false)), []⟩, ⟨7, (some 34), none, .mov (.t 33), []⟩, ⟨8, (some 35), (some (34, true)), .ldn 2 (.t 1), []⟩, ⟨9, (some 36), (some (34, true)), .bsl 28 3 [.int .u16 0] [(0, (1, .c (.int .u16 1))), (1, (1, .c (.int .u16 2))), (2, (1, .c (.int .u16 3)))], []⟩, ⟨10, (some 37), (some (34, true)), .call (.c (.func (.func 25) #[] #[])) [.t 35, .c (.bool false), .t 36, .c (.int .u16 2)], []⟩, ⟨11, (some 38), (some (34, true)), .bin .eql (.t 37) (.c (.int .u16 9)), []⟩, ⟨12, (some 39), none, .pick (.t 34) (.t 38) (.c (.bool false)), []⟩, ⟨13, (some 2), none, .mov (.t 39), []⟩]) .ret))))
attribute [irreducible] c_culletlaw04_awake
theorem run_culletlaw04_awake {args : List Value} {w : World} {K : Value → World → Prop} (hn : args.length ≤ 40) (h : WP Try.prog c_culletlaw04_awake (endQ [.t 2] K) (initT args) w) : CallV Try.prog 23 args w K :=
  call_of follows Try.func23 (by kernel_rfl) (by kernel_rfl) hn h
end Go.Proofs.Ytcdagkcchfibjaa.Fw
namespace Go.Proofs.Ytcdagkcchfibjaa.Fw
open Go Go.Fw
theorem aw1 (m : List (El 8)) (ht : tr m = m) (hc : co m = co ([⟨1⟩, ⟨1⟩] : List (El 8)) * co [⟨1⟩, ⟨1⟩]) : m.map em8 = [⟨1⟩, ⟨0⟩, ⟨1⟩] := by
  have : m = [⟨1⟩, ⟨0⟩, ⟨1⟩] := tr_inj ht (by decide +kernel) (hc.trans (ps_eq 3 ((co_dg _).mul (co_dg _)) (co_dg _) (by decide +kernel)))
  rw [this]; rfl
theorem aw2 (m : List (El 16)) (ht : tr m = m) (hc : co m = co ([⟨32768⟩] : List (El 16)) * co [⟨2⟩]) : m.map em16 = [⟨45⟩] := by
  have : m = [⟨45⟩] := tr_inj ht (by decide +kernel) (hc.trans (ps_eq 1 ((co_dg _).mul (co_dg _)) (co_dg _) (by decide +kernel)))
  rw [this]; rfl
theorem aw3 : ((em8 (evl ([⟨1⟩, ⟨2⟩, ⟨3⟩] : List (El 8)) ⟨2⟩)).v.toNat : Int) = 9 := by decide +kernel
theorem culletlaw04_awake_spec (w : World) (rb rw : Value) (hb : Ring_b w rb) (hw : Ring_w w rw) : CallV Try.prog 23 [.agg #[rb, rw]] w fun v w' => v = .bool true ∧ RowKit.Below w.heap.size w w' := by
  refine run_culletlaw04_awake (by simp) ?_
  simp only [c_culletlaw04_awake, WS, List.getElem_cons_zero, List.getElem_cons_succ, Option.isNone_some, Option.isNone_none, List.getD_cons_zero, List.getD_cons_succ, I.at, atL, atO, atP, evp, evs, retV, ↓reduceIte, Nat.reduceEqDiff, reduceCtorEq]
  refine X_box fun b3 w1 hr hb3 hB => ?_
  have hr : Row w1 b3 [rb, rw] := hr
  clear hb3
  have hb := hb.up hB
  have hw := hw.up hB
  have B1 : RowKit.Below w.heap.size w w1 := hB
  clear hB
  simp only [WS, List.getElem_cons_zero, List.getElem_cons_succ, Option.isNone_some, Option.isNone_none, List.getD_cons_zero, List.getD_cons_succ, I.at, atL, atO, atP, evp, evs, retV, ↓reduceIte, Nat.reduceEqDiff, reduceCtorEq, hr.Xldn (n := 2) rfl]
  refine X_bsl (zs := [(⟨1⟩ : El 16), (⟨1⟩ : El 16)]) (by rfl) (by rfl) fun c1 w2 c1o hB => ?_
  have hb := hb.up hB
  have hw := hw.up hB
  have hr := hr.up hB
  have B2 : RowKit.Below w.heap.size w w2 := B1.trans (hB.mono B1.size)
  clear hB B1
  have hc1 := c1o.sl
  simp only [WS, List.getElem_cons_zero, List.getElem_cons_succ, Option.isNone_some, Option.isNone_none, List.getD_cons_zero, List.getD_cons_succ, I.at, atL, atO, atP, evp, evs, retV, ↓reduceIte, Nat.reduceEqDiff, reduceCtorEq]
  refine X_bsl (zs := [(⟨1⟩ : El 16), (⟨1⟩ : El 16)]) (by rfl) (by rfl) fun c2 w3 c2o hB => ?_
  have hb := hb.up hB
  have hw := hw.up hB
  have hr := hr.up hB
  have hc1 := hc1.up hB
  have B3 : RowKit.Below w.heap.size w w3 := B2.trans (hB.mono B2.size)
  clear hB B2
  have hc2 := c2o.sl
  simp only [WS, List.getElem_cons_zero, List.getElem_cons_succ, Option.isNone_some, Option.isNone_none, List.getD_cons_zero, List.getD_cons_succ, I.at, atL, atO, atP, evp, evs, retV, ↓reduceIte, Nat.reduceEqDiff, reduceCtorEq]
  refine X_call0 ((culletlaw04_Rings_mul_b_spec w3 rb rw c1 c2 _ _ hb hw hc1 hc2 (by simp) (by simp)).mono ?_)
  rintro _ w4 ⟨hB, ⟨-, -, s, m, rfl, om, ht, hc, -⟩ | ⟨hn, -⟩⟩
  rotate_left
  · exact absurd ⟨by simp, by simp⟩ hn
  rw [aw1 m ht hc] at om
  have om := om.sl
  have hb := hb.up hB
  have hw := hw.up hB
  have hr := hr.up hB
  have hc1 := hc1.up hB
  have hc2 := hc2.up hB
  have B4 : RowKit.Below w.heap.size w w4 := B3.trans (hB.mono B3.size)
  clear hB B3
  simp only [WS, List.getElem_cons_zero, List.getElem_cons_succ, Option.isNone_some, Option.isNone_none, List.getD_cons_zero, List.getD_cons_succ, I.at, atL, atO, atP, evp, evs, retV, ↓reduceIte, Nat.reduceEqDiff, reduceCtorEq, show decide ((0 : Int) = 0) = true from rfl]
  refine X_bsl (zs := [(⟨1⟩ : El 16), (⟨0⟩ : El 16), (⟨1⟩ : El 16)]) (by rfl) (by rfl) fun c3 w5 c3o hB => ?_
  have hb := hb.up hB
  have hw := hw.up hB
  have hr := hr.up hB
  have hc1 := hc1.up hB
  have hc2 := hc2.up hB
  have om := om.up hB
  have B5 : RowKit.Below w.heap.size w w5 := B4.trans (hB.mono B4.size)
  clear hB B4
  have hc3 := c3o.sl
  simp only [WS, List.getElem_cons_zero, List.getElem_cons_succ, Option.isNone_some, Option.isNone_none, List.getD_cons_zero, List.getD_cons_succ, I.at, atL, atO, atP, evp, evs, retV, ↓reduceIte, Nat.reduceEqDiff, reduceCtorEq]
  refine X_call0 ((culletlaw04_same_spec w5 s c3 _ _ om hc3 (by simp) (by simp)).mono ?_)
  rintro _ w6 ⟨rfl, hk⟩
  have hB := hk.1
  clear hk
  have hb := hb.up hB
  have hw := hw.up hB
  have hr := hr.up hB
  have B6 : RowKit.Below w.heap.size w w6 := B5.trans (hB.mono B5.size)
  clear hB B5
  simp only [WS, List.getElem_cons_zero, List.getElem_cons_succ, Option.isNone_some, Option.isNone_none, List.getD_cons_zero, List.getD_cons_succ, I.at, atL, atO, atP, evp, evs, retV, ↓reduceIte, Nat.reduceEqDiff, reduceCtorEq, hr.Xldn (n := 2) rfl]
  refine X_bsl (zs := [(⟨32768⟩ : El 16)]) (by rfl) (by rfl) fun c4 w7 c4o hB => ?_
  have hb := hb.up hB
  have hw := hw.up hB
  have hr := hr.up hB
  have B7 : RowKit.Below w.heap.size w w7 := B6.trans (hB.mono B6.size)
  clear hB B6
  have hc4 := c4o.sl
  simp only [WS, List.getElem_cons_zero, List.getElem_cons_succ, Option.isNone_some, Option.isNone_none, List.getD_cons_zero, List.getD_cons_succ, I.at, atL, atO, atP, evp, evs, retV, ↓reduceIte, Nat.reduceEqDiff, reduceCtorEq]
  refine X_bsl (zs := [(⟨2⟩ : El 16)]) (by rfl) (by rfl) fun c5 w8 c5o hB => ?_
  have hb := hb.up hB
  have hw := hw.up hB
  have hr := hr.up hB
  have hc4 := hc4.up hB
  have B8 : RowKit.Below w.heap.size w w8 := B7.trans (hB.mono B7.size)
  clear hB B7
  have hc5 := c5o.sl
  simp only [WS, List.getElem_cons_zero, List.getElem_cons_succ, Option.isNone_some, Option.isNone_none, List.getD_cons_zero, List.getD_cons_succ, I.at, atL, atO, atP, evp, evs, retV, ↓reduceIte, Nat.reduceEqDiff, reduceCtorEq]
  refine X_call0 ((culletlaw04_Rings_mul_w_spec w8 rb rw c4 c5 _ _ hb hw hc4 hc5 (by simp) (by simp)).mono ?_)
  rintro _ w9 ⟨hB, ⟨-, -, s2, m2, rfl, om2, ht2, hc2, -⟩ | ⟨hn, -⟩⟩
  rotate_left
  · exact absurd ⟨by simp, by simp⟩ hn
  rw [aw2 m2 ht2 hc2] at om2
  have om2 := om2.sl
  have hb := hb.up hB
  have hw := hw.up hB
  have hr := hr.up hB
  have B9 : RowKit.Below w.heap.size w w9 := B8.trans (hB.mono B8.size)
  clear hB B8
  simp only [WS, List.getElem_cons_zero, List.getElem_cons_succ, Option.isNone_some, Option.isNone_none, List.getD_cons_zero, List.getD_cons_succ, I.at, atL, atO, atP, evp, evs, retV, ↓reduceIte, Nat.reduceEqDiff, reduceCtorEq, show decide ((0 : Int) = 0) = true from rfl]
  refine X_bsl (zs := [(⟨45⟩ : El 16)]) (by rfl) (by rfl) fun c6 w10 c6o hB => ?_
  have hb := hb.up hB
  have hw := hw.up hB
  have hr := hr.up hB
  have om2 := om2.up hB
  have B10 : RowKit.Below w.heap.size w w10 := B9.trans (hB.mono B9.size)
  clear hB B9
  have hc6 := c6o.sl
  simp only [WS, List.getElem_cons_zero, List.getElem_cons_succ, Option.isNone_some, Option.isNone_none, List.getD_cons_zero, List.getD_cons_succ, I.at, atL, atO, atP, evp, evs, retV, ↓reduceIte, Nat.reduceEqDiff, reduceCtorEq]
  refine X_call0 ((culletlaw04_same_spec w10 s2 c6 _ _ om2 hc6 (by simp) (by simp)).mono ?_)
  rintro _ w11 ⟨rfl, hk⟩
  have hB := hk.1
  clear hk
  have hb := hb.up hB
  have hw := hw.up hB
  have hr := hr.up hB
  have B11 : RowKit.Below w.heap.size w w11 := B10.trans (hB.mono B10.size)
  clear hB B10
  simp only [WS, List.getElem_cons_zero, List.getElem_cons_succ, Option.isNone_some, Option.isNone_none, List.getD_cons_zero, List.getD_cons_succ, I.at, atL, atO, atP, evp, evs, retV, ↓reduceIte, Nat.reduceEqDiff, reduceCtorEq, hr.Xldn (n := 2) rfl]
  refine X_bsl (zs := [(⟨1⟩ : El 16), (⟨2⟩ : El 16), (⟨3⟩ : El 16)]) (by rfl) (by rfl) fun c7 w12 c7o hB => ?_
  have hb := hb.up hB
  have hw := hw.up hB
  have hr := hr.up hB
  have B12 : RowKit.Below w.heap.size w w12 := B11.trans (hB.mono B11.size)
  clear hB B11
  have hc7 := c7o.sl
  simp only [WS, List.getElem_cons_zero, List.getElem_cons_succ, Option.isNone_some, Option.isNone_none, List.getD_cons_zero, List.getD_cons_succ, I.at, atL, atO, atP, evp, evs, retV, ↓reduceIte, Nat.reduceEqDiff, reduceCtorEq]
  refine X_call0 ((culletlaw04_Rings_eval_b_spec w12 rb rw c7 [⟨1⟩, ⟨2⟩, ⟨3⟩] ⟨2⟩ hb hw hc7 (by simp)).mono ?_)
  rintro _ w13 ⟨hB, rfl⟩
  have hb := hb.up hB
  have hw := hw.up hB
  have hr := hr.up hB
  have hc7 := hc7.up hB
  have B13 : RowKit.Below w.heap.size w w13 := B12.trans (hB.mono B12.size)
  clear hB B12
  rw [show ([⟨1⟩, ⟨2⟩, ⟨3⟩] : List (El 16)).map lo8 = [⟨1⟩, ⟨2⟩, ⟨3⟩] from rfl, aw3]
  simp only [WS, List.getElem_cons_zero, List.getElem_cons_succ, Option.isNone_some, Option.isNone_none, List.getD_cons_zero, List.getD_cons_succ, I.at, atL, atO, atP, evp, evs, retV, ↓reduceIte, Nat.reduceEqDiff, reduceCtorEq, show decide ((9 : Int) = 9) = true from rfl]
  exact B13
end Go.Proofs.Ytcdagkcchfibjaa.Fw

set_option linter.unusedVariables false
set_option linter.unusedSimpArgs false
set_option maxRecDepth 100000
set_option maxHeartbeats 1000000
namespace Go.Proofs.Ytcdagkcchfibjaa.Fw
open Go Go.Fw Go.Proofs
attribute [local irreducible] stepI
end Go.Proofs.Ytcdagkcchfibjaa.Fw
namespace Go.Proofs.Ytcdagkcchfibjaa.Fw
open Go Go.Fw
end Go.Proofs.Ytcdagkcchfibjaa.Fw

namespace Go.Proofs.Ytcdagkcchfibjaa.Fw
open Go Go.Fw
end Go.Proofs.Ytcdagkcchfibjaa.Fw

namespace Go.Proofs.Ytcdagkcchfibjaa.Fw
open Go Go.Fw
end Go.Proofs.Ytcdagkcchfibjaa.Fw
