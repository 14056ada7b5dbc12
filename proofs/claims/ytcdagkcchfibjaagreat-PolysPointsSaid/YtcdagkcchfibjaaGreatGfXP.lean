import Derived.Test.YtcdagkcchfibjaaGreatProg
import Derived.Test.YtcdagkcchfibjaaGreatFwTP
import Derived.Test.YtcdagkcchfibjaaGreatSZgP
import Derived.Test.YtcdagkcchfibjaaGreatGfSP
import Derived.Test.YtcdagkcchfibjaaGreatSZwP
import Derived.Test.YtcdagkcchfibjaaGreatGfEP
import Derived.Test.YtcdagkcchfibjaaGreatGfFP
import Derived.Test.YtcdagkcchfibjaaGreatSZFP
import Derived.Test.YtcdagkcchfibjaaGreatFwWP
import Derived.Test.YtcdagkcchfibjaaGreatSZDP
set_option linter.all false
set_option linter.unusedVariables false
set_option linter.unusedSimpArgs false
set_option maxRecDepth 100000
set_option maxHeartbeats 1000000
namespace Go.Proofs.YtcdagkcchfibjaaGreat.Fw
open Go Go.Fw Go.Proofs
attribute [local irreducible] stepI
def c_culletlaw04_awake : C := .seq (.ops [⟨0, (some 1), none, .box 28 (.t 0), []⟩, ⟨1, (some 2), none, .mov (.c (.bool false)), []⟩]) (.seq (.ops [⟨0, (some 6), none, .ldn 2 (.t 1), []⟩, ⟨1, (some 7), none, .bsl 32 2 [.int .u16 0] [(0, (1, .c (.int .u16 1))), (1, (1, .c (.int .u16 1)))], []⟩, ⟨2, (some 8), none, .bsl 32 2 [.int .u16 0] [(0, (1, .c (.int .u16 1))), (1, (1, .c (.int .u16 1)))], []⟩, ⟨3, (some 9), none, .call (.c (.func (.func 13) #[] #[])) [.t 6, .c (.bool false), .t 7, .t 8], []⟩, ⟨4, (some 5), none, .mov (.t 9), []⟩, ⟨5, (some 10), none, .ext (.t 5) 0, []⟩, ⟨6, (some 11), none, .ext (.t 5) 1, []⟩, ⟨7, (some 3), none, .mov (.t 10), []⟩, ⟨8, (some 4), none, .mov (.t 11), []⟩]) (.seq (.seq (.ops [⟨0, (some 12), none, .mov (.t 4), []⟩, ⟨1, (some 13), none, .bin .neq (.t 12) (.c (.int .i64 0)), []⟩, ⟨2, (some 14), none, .mov (.t 13), []⟩, ⟨3, (some 15), (some (14, false)), .mov (.t 3), []⟩, ⟨4, (some 16), (some (14, false)), .bsl 32 3 [.int .u16 0] [(0, (1, .c (.int .u16 1))), (1, (1, .c (.int .u16 0))), (2, (1, .c (.int .u16 1)))], []⟩, ⟨5, (some 17), (some (14, false)), .call (.c (.func (.func 14) #[] #[])) [.t 15, .t 16], []⟩, ⟨6, (some 18), (some (14, false)), .un .not (.t 17), []⟩, ⟨7, (some 19), none, .pick (.t 14) (.c (.bool true)) (.t 18), []⟩]) (.ite (.t 19) (.seq (.ops [⟨0, (some 2), none, .mov (.c (.bool false)), []⟩]) .ret) .skip)) (.seq (.ops [⟨0, (some 21), none, .ldn 2 (.t 1), []⟩, ⟨1, (some 22), none, .bsl 32 1 [.int .u16 0] [(0, (1, .c (.int .u16 32768)))], []⟩, ⟨2, (some 23), none, .bsl 32 1 [.int .u16 0] [(0, (1, .c (.int .u16 2)))], []⟩, ⟨3, (some 24), none, .call (.c (.func (.func 13) #[] #[])) [.t 21, .c (.bool true), .t 22, .t 23], []⟩, ⟨4, (some 20), none, .mov (.t 24), []⟩, ⟨5, (some 25), none, .ext (.t 20) 0, []⟩, ⟨6, (some 26), none, .ext (.t 20) 1, []⟩, ⟨7, (some 3), none, .mov (.t 25), []⟩, ⟨8, (some 4), none, .mov (.t 26), []⟩]) (.seq (.ops [⟨0, (some 27), none, .mov (.t 4), []⟩, ⟨1, (some 28), none, .bin .eql (.t 27) (.c (.int .i64 0)), []⟩, ⟨2, (some 29), none, .mov (.t 28), []⟩, ⟨3, (some 30), (some (29, true)), .mov (.t 3), []⟩, ⟨4, (some 31), (some (29, true)), .bsl 32 1 [.int .u16 0] [(0, (1, .c (.int .u16 45)))], []⟩, ⟨5, (some 32), (some (29, true)), .call (.c (.func (.func 14) #[] #[])) [.t 30, .t 31], []⟩, ⟨6, (some 33), none, .pick (.t 29) (.t 32) (.c (.bool false)), []⟩, ⟨7, (some 34), none, .mov (.t 33), []⟩, ⟨8, (some 35), (some (34, true)), .ldn 2 (.t 1), []⟩, ⟨9, (some 36), (some (34, true)), .bsl 32 3 [.int .u16 0] [(0, (1, .c (.int .u16 1))), (1, (1, .c (.int .u16 2))), (2, (1, .c (.int .u16 3)))], []⟩, ⟨10, (some 37), (some (34, true)), .call (.c (.func (.func 15) #[] #[])) [.t 35, .c (.bool false), .t 36, .c (.int .u16 2)], []⟩, ⟨11, (some 38), (some (34, true)), .bin .eql (.t 37) (.c (.int .u16 9)), []⟩, ⟨12, (some 39), none, .pick (.t 34) (.t 38) (.c (.bool false)), []⟩, ⟨13, (some 2), none, .mov (.t 39), []⟩]) .ret))))
attribute [irreducible] c_culletlaw04_awake
theorem run_culletlaw04_awake {args : List Value} {w : World} {K : Value → World → Prop} (hn : args.length ≤ 40) (h : WP Tryz.prog c_culletlaw04_awake (endQ [.t 2] K) (initT args) w) : CallV Tryz.prog 9 args w K :=
  call_of follows Tryz.func9 (by kernel_rfl) (by kernel_rfl) hn h
end Go.Proofs.YtcdagkcchfibjaaGreat.Fw
namespace Go.Proofs.YtcdagkcchfibjaaGreat.Fw
open Go Go.Fw
theorem row6_0 {w : World} {b : Nat} {a0 a1 a2 a3 a4 a5 : Value} (h : Row w b [a0, a1, a2, a3, a4, a5]) (P : Program) (d : Option Nat) (l : List D) (Q : T → World → Prop) (t : T) : XW P (.ld (.c (.pointer (some ⟨b, 0, none⟩)))) d l Q t w = W P Q l (put t d a0) w := h.Xld (o := 0) (by simp) P d l Q t
theorem row6_1 {w : World} {b : Nat} {a0 a1 a2 a3 a4 a5 : Value} (h : Row w b [a0, a1, a2, a3, a4, a5]) (P : Program) (d : Option Nat) (l : List D) (Q : T → World → Prop) (t : T) : XW P (.ld (.c (.pointer (some ⟨b, 1, none⟩)))) d l Q t w = W P Q l (put t d a1) w := h.Xld (o := 1) (by simp) P d l Q t
theorem row6_2 {w : World} {b : Nat} {a0 a1 a2 a3 a4 a5 : Value} (h : Row w b [a0, a1, a2, a3, a4, a5]) (P : Program) (d : Option Nat) (l : List D) (Q : T → World → Prop) (t : T) : XW P (.ld (.c (.pointer (some ⟨b, 2, none⟩)))) d l Q t w = W P Q l (put t d a2) w := h.Xld (o := 2) (by simp) P d l Q t
theorem row6_3 {w : World} {b : Nat} {a0 a1 a2 a3 a4 a5 : Value} (h : Row w b [a0, a1, a2, a3, a4, a5]) (P : Program) (d : Option Nat) (l : List D) (Q : T → World → Prop) (t : T) : XW P (.ld (.c (.pointer (some ⟨b, 3, none⟩)))) d l Q t w = W P Q l (put t d a3) w := h.Xld (o := 3) (by simp) P d l Q t
section
variable {n_ : Nat} {u_ : List Nat} {rs_ : List RN} {es_ : List EN}
end
def OpQ (w : World) (vs : List Value) (k : Int) : Prop := ∃ (b : Bool) (F G : Value) (LF LG : List (El 16)) (x : El 16) (n : Int), vs = [.int .i64 k, .bool b, F, G, .int .u16 (x.v.toNat : Int), .int .i64 n] ∧ Sl w F LF ∧ Sl w G LG ∧ LF.length ≤ 70368744175616 ∧ LG.length ≤ 70368744175616
theorem OpQ.up {w w' : World} {vs : List Value} {k : Int} (h : OpQ w vs k) (hB : RowKit.Below w.heap.size w w') : OpQ w' vs k := by
  obtain ⟨b, F, G, LF, LG, x, n, e, hF, hG, hl⟩ := h
  exact ⟨b, F, G, LF, LG, x, n, e, hF.up hB, hG.up hB, hl⟩
theorem opq_of {w : World} {vs : List Value} (h : vs.length = 6 ∧ RF 1 (RI .i64) (RF 1 RB (RF 1 (RS (El 16) 2 fun _ _ => True) (RF 1 (RS (El 16) 2 fun _ _ => True) (RF 1 (RC (El 16) fun _ _ => True) (RF 1 (RI .i64) RZ))))) w vs) : ∃ k, OpQ w vs k := by
  obtain ⟨hl, h⟩ := h
  obtain ⟨u0, c0, rfl, y0, h⟩ := RF.split h RI.one
  obtain ⟨u1, c1, rfl, y1, h⟩ := RF.split h RB.one
  obtain ⟨u2, c2, rfl, y2, h⟩ := RF.split h RS.one
  obtain ⟨u3, c3, rfl, y3, h⟩ := RF.split h RS.one
  obtain ⟨u4, c4, rfl, y4, h⟩ := RF.split h RC.one
  obtain ⟨u5, c5, rfl, y5, h⟩ := RF.split h RI.one
  obtain rfl : c5 = [] := List.eq_nil_of_length_eq_zero (by simpa using hl)
  obtain ⟨k, e0, -⟩ := y0
  obtain ⟨b, e1⟩ := y1
  obtain ⟨F, LF, e2, hF, bF, -⟩ := y2
  obtain ⟨G, LG, e3, hG, bG, -⟩ := y3
  obtain ⟨x, e4, -⟩ := y4
  obtain ⟨n, e5, -⟩ := y5
  simp only [List.cons.injEq, and_true] at e0 e1 e2 e3 e4 e5
  subst e0 e1 e2 e3 e4 e5
  exact ⟨k, b, _, _, LF, LG, x, n, rfl, hF, hG, by omega, by omega⟩
end Go.Proofs.YtcdagkcchfibjaaGreat.Fw

namespace Go.Proofs.YtcdagkcchfibjaaGreat.Fw
open Go Go.Fw
end Go.Proofs.YtcdagkcchfibjaaGreat.Fw

namespace Go.Proofs.YtcdagkcchfibjaaGreat.Fw
open Go Go.Fw
theorem aw1 (m : List (El 8)) (ht : tr m = m) (hc : co m = co ([⟨1⟩, ⟨1⟩] : List (El 8)) * co [⟨1⟩, ⟨1⟩]) : m.map em8 = [⟨1⟩, ⟨0⟩, ⟨1⟩] := by
  have : m = [⟨1⟩, ⟨0⟩, ⟨1⟩] := tr_inj ht (by decide +kernel) (hc.trans (ps_eq 3 ((co_dg _).mul (co_dg _)) (co_dg _) (by decide +kernel)))
  rw [this]; rfl
theorem aw2 (m : List (El 16)) (ht : tr m = m) (hc : co m = co ([⟨32768⟩] : List (El 16)) * co [⟨2⟩]) : m.map em16 = [⟨45⟩] := by
  have : m = [⟨45⟩] := tr_inj ht (by decide +kernel) (hc.trans (ps_eq 1 ((co_dg _).mul (co_dg _)) (co_dg _) (by decide +kernel)))
  rw [this]; rfl
theorem aw3 : ((em8 (evl ([⟨1⟩, ⟨2⟩, ⟨3⟩] : List (El 8)) ⟨2⟩)).v.toNat : Int) = 9 := by decide +kernel
theorem culletlaw04_awake_spec (w : World) (rb rw : Value) (hb : Ring_b w rb) (hw : Ring_w w rw) : CallV Tryz.prog 9 [.agg #[rb, rw]] w fun v w' => v = .bool true ∧ RowKit.Below w.heap.size w w' := by
  refine run_culletlaw04_awake (by simp) ?_
  simp only [c_culletlaw04_awake, WS, List.getElem_cons_zero, List.getElem_cons_succ, Option.isNone_some, Option.isNone_none, List.getD_cons_zero, List.getD_cons_succ, I.at, atL, atO, atP, evp, evs, retV, ↓reduceIte, Nat.reduceEqDiff, reduceCtorEq]
  refine X_box fun b3 w1 hr hb3 hB => ?_
  have hr : Row w1 b3 [rb, rw] := hr
  clear hb3
  have hb := hb.up hB
  have hw := hw.up hB
  have B1 : RowKit.Below w.heap.size w w1 := hB
  clear hB
  simp only [WS, List.getElem_cons_zero, List.getElem_cons_succ, Option.isNone_some, Option.isNone_none, List.getD_cons_zero, List.getD_cons_succ, I.at, atL, atO, atP, evp, evs, retV, ↓reduceIte, Nat.reduceEqDiff, reduceCtorEq, hr.Xldn (n := 2) rfl]
  refine X_bsl (zs := [(⟨1⟩ : El 16), (⟨1⟩ : El 16)]) (by rfl) (by rfl) fun c1 w2 c1o hB => ?_
  have hb := hb.up hB
  have hw := hw.up hB
  have hr := hr.up hB
  have B2 : RowKit.Below w.heap.size w w2 := B1.trans (hB.mono B1.size)
  clear hB B1
  have hc1 := c1o.sl
  simp only [WS, List.getElem_cons_zero, List.getElem_cons_succ, Option.isNone_some, Option.isNone_none, List.getD_cons_zero, List.getD_cons_succ, I.at, atL, atO, atP, evp, evs, retV, ↓reduceIte, Nat.reduceEqDiff, reduceCtorEq]
  refine X_bsl (zs := [(⟨1⟩ : El 16), (⟨1⟩ : El 16)]) (by rfl) (by rfl) fun c2 w3 c2o hB => ?_
  have hb := hb.up hB
  have hw := hw.up hB
  have hr := hr.up hB
  have hc1 := hc1.up hB
  have B3 : RowKit.Below w.heap.size w w3 := B2.trans (hB.mono B2.size)
  clear hB B2
  have hc2 := c2o.sl
  simp only [WS, List.getElem_cons_zero, List.getElem_cons_succ, Option.isNone_some, Option.isNone_none, List.getD_cons_zero, List.getD_cons_succ, I.at, atL, atO, atP, evp, evs, retV, ↓reduceIte, Nat.reduceEqDiff, reduceCtorEq]
  refine X_call0 ((culletlaw04_Rings_mul_b_spec w3 rb rw c1 c2 _ _ hb hw hc1 hc2 (by simp) (by simp)).mono ?_)
  rintro _ w4 ⟨hB, ⟨-, -, s, m, rfl, om, ht, hc, -⟩ | ⟨hn, -⟩⟩
  rotate_left
  · exact absurd ⟨by simp, by simp⟩ hn
  rw [aw1 m ht hc] at om
  have om := om.sl
  have hb := hb.up hB
  have hw := hw.up hB
  have hr := hr.up hB
  have hc1 := hc1.up hB
  have hc2 := hc2.up hB
  have B4 : RowKit.Below w.heap.size w w4 := B3.trans (hB.mono B3.size)
  clear hB B3
  simp only [WS, List.getElem_cons_zero, List.getElem_cons_succ, Option.isNone_some, Option.isNone_none, List.getD_cons_zero, List.getD_cons_succ, I.at, atL, atO, atP, evp, evs, retV, ↓reduceIte, Nat.reduceEqDiff, reduceCtorEq, show decide ((0 : Int) = 0) = true from rfl]
  refine X_bsl (zs := [(⟨1⟩ : El 16), (⟨0⟩ : El 16), (⟨1⟩ : El 16)]) (by rfl) (by rfl) fun c3 w5 c3o hB => ?_
  have hb := hb.up hB
  have hw := hw.up hB
  have hr := hr.up hB
  have hc1 := hc1.up hB
  have hc2 := hc2.up hB
  have om := om.up hB
  have B5 : RowKit.Below w.heap.size w w5 := B4.trans (hB.mono B4.size)
  clear hB B4
  have hc3 := c3o.sl
  simp only [WS, List.getElem_cons_zero, List.getElem_cons_succ, Option.isNone_some, Option.isNone_none, List.getD_cons_zero, List.getD_cons_succ, I.at, atL, atO, atP, evp, evs, retV, ↓reduceIte, Nat.reduceEqDiff, reduceCtorEq]
  refine X_call0 ((culletlaw04_same_spec w5 s c3 _ _ om hc3 (by simp) (by simp)).mono ?_)
  rintro _ w6 ⟨rfl, hk⟩
  have hB := hk.1
  clear hk
  have hb := hb.up hB
  have hw := hw.up hB
  have hr := hr.up hB
  have B6 : RowKit.Below w.heap.size w w6 := B5.trans (hB.mono B5.size)
  clear hB B5
  simp only [WS, List.getElem_cons_zero, List.getElem_cons_succ, Option.isNone_some, Option.isNone_none, List.getD_cons_zero, List.getD_cons_succ, I.at, atL, atO, atP, evp, evs, retV, ↓reduceIte, Nat.reduceEqDiff, reduceCtorEq, hr.Xldn (n := 2) rfl]
  refine X_bsl (zs := [(⟨32768⟩ : El 16)]) (by rfl) (by rfl) fun c4 w7 c4o hB => ?_
  have hb := hb.up hB
  have hw := hw.up hB
  have hr := hr.up hB
  have B7 : RowKit.Below w.heap.size w w7 := B6.trans (hB.mono B6.size)
  clear hB B6
  have hc4 := c4o.sl
  simp only [WS, List.getElem_cons_zero, List.getElem_cons_succ, Option.isNone_some, Option.isNone_none, List.getD_cons_zero, List.getD_cons_succ, I.at, atL, atO, atP, evp, evs, retV, ↓reduceIte, Nat.reduceEqDiff, reduceCtorEq]
  refine X_bsl (zs := [(⟨2⟩ : El 16)]) (by rfl) (by rfl) fun c5 w8 c5o hB => ?_
  have hb := hb.up hB
  have hw := hw.up hB
  have hr := hr.up hB
  have hc4 := hc4.up hB
  have B8 : RowKit.Below w.heap.size w w8 := B7.trans (hB.mono B7.size)
  clear hB B7
  have hc5 := c5o.sl
  simp only [WS, List.getElem_cons_zero, List.getElem_cons_succ, Option.isNone_some, Option.isNone_none, List.getD_cons_zero, List.getD_cons_succ, I.at, atL, atO, atP, evp, evs, retV, ↓reduceIte, Nat.reduceEqDiff, reduceCtorEq]
  refine X_call0 ((culletlaw04_Rings_mul_w_spec w8 rb rw c4 c5 _ _ hb hw hc4 hc5 (by simp) (by simp)).mono ?_)
  rintro _ w9 ⟨hB, ⟨-, -, s2, m2, rfl, om2, ht2, hc2, -⟩ | ⟨hn, -⟩⟩
  rotate_left
  · exact absurd ⟨by simp, by simp⟩ hn
  rw [aw2 m2 ht2 hc2] at om2
  have om2 := om2.sl
  have hb := hb.up hB
  have hw := hw.up hB
  have hr := hr.up hB
  have B9 : RowKit.Below w.heap.size w w9 := B8.trans (hB.mono B8.size)
  clear hB B8
  simp only [WS, List.getElem_cons_zero, List.getElem_cons_succ, Option.isNone_some, Option.isNone_none, List.getD_cons_zero, List.getD_cons_succ, I.at, atL, atO, atP, evp, evs, retV, ↓reduceIte, Nat.reduceEqDiff, reduceCtorEq, show decide ((0 : Int) = 0) = true from rfl]
  refine X_bsl (zs := [(⟨45⟩ : El 16)]) (by rfl) (by rfl) fun c6 w10 c6o hB => ?_
  have hb := hb.up hB
  have hw := hw.up hB
  have hr := hr.up hB
  have om2 := om2.up hB
  have B10 : RowKit.Below w.heap.size w w10 := B9.trans (hB.mono B9.size)
  clear hB B9
  have hc6 := c6o.sl
  simp only [WS, List.getElem_cons_zero, List.getElem_cons_succ, Option.isNone_some, Option.isNone_none, List.getD_cons_zero, List.getD_cons_succ, I.at, atL, atO, atP, evp, evs, retV, ↓reduceIte, Nat.reduceEqDiff, reduceCtorEq]
  refine X_call0 ((culletlaw04_same_spec w10 s2 c6 _ _ om2 hc6 (by simp) (by simp)).mono ?_)
  rintro _ w11 ⟨rfl, hk⟩
  have hB := hk.1
  clear hk
  have hb := hb.up hB
  have hw := hw.up hB
  have hr := hr.up hB
  have B11 : RowKit.Below w.heap.size w w11 := B10.trans (hB.mono B10.size)
  clear hB B10
  simp only [WS, List.getElem_cons_zero, List.getElem_cons_succ, Option.isNone_some, Option.isNone_none, List.getD_cons_zero, List.getD_cons_succ, I.at, atL, atO, atP, evp, evs, retV, ↓reduceIte, Nat.reduceEqDiff, reduceCtorEq, hr.Xldn (n := 2) rfl]
  refine X_bsl (zs := [(⟨1⟩ : El 16), (⟨2⟩ : El 16), (⟨3⟩ : El 16)]) (by rfl) (by rfl) fun c7 w12 c7o hB => ?_
  have hb := hb.up hB
  have hw := hw.up hB
  have hr := hr.up hB
  have B12 : RowKit.Below w.heap.size w w12 := B11.trans (hB.mono B11.size)
  clear hB B11
  have hc7 := c7o.sl
  simp only [WS, List.getElem_cons_zero, List.getElem_cons_succ, Option.isNone_some, Option.isNone_none, List.getD_cons_zero, List.getD_cons_succ, I.at, atL, atO, atP, evp, evs, retV, ↓reduceIte, Nat.reduceEqDiff, reduceCtorEq]
  refine X_call0 ((culletlaw04_Rings_eval_b_spec w12 rb rw c7 [⟨1⟩, ⟨2⟩, ⟨3⟩] ⟨2⟩ hb hw hc7 (by simp)).mono ?_)
  rintro _ w13 ⟨hB, rfl⟩
  have hb := hb.up hB
  have hw := hw.up hB
  have hr := hr.up hB
  have hc7 := hc7.up hB
  have B13 : RowKit.Below w.heap.size w w13 := B12.trans (hB.mono B12.size)
  clear hB B12
  rw [show ([⟨1⟩, ⟨2⟩, ⟨3⟩] : List (El 16)).map lo8 = [⟨1⟩, ⟨2⟩, ⟨3⟩] from rfl, aw3]
  simp only [WS, List.getElem_cons_zero, List.getElem_cons_succ, Option.isNone_some, Option.isNone_none, List.getD_cons_zero, List.getD_cons_succ, I.at, atL, atO, atP, evp, evs, retV, ↓reduceIte, Nat.reduceEqDiff, reduceCtorEq, show decide ((9 : Int) = 9) = true from rfl]
  exact B13
end Go.Proofs.YtcdagkcchfibjaaGreat.Fw

set_option linter.unusedVariables false
set_option linter.unusedSimpArgs false
set_option maxRecDepth 100000
set_option maxHeartbeats 1000000
namespace Go.Proofs.YtcdagkcchfibjaaGreat.Fw
open Go Go.Fw Go.Proofs
attribute [local irreducible] stepI
def c_culletref04_Vanishing : C := .seq (.ops [⟨0, (some 4), none, .mov (.c (.slice none 0 0)), []⟩, ⟨1, (some 5), none, .mov (.c (.int .i64 0)), []⟩]) (.seq (.seq (.ops [⟨0, (some 6), none, .mov (.t 1), []⟩, ⟨1, (some 7), none, .len (.t 6), []⟩, ⟨2, (some 8), none, .bin .gtr (.t 7) (.c (.int .i64 1024)), []⟩]) (.ite (.t 8) (.seq (.ops [⟨0, (some 4), none, .mov (.c (.slice none 0 0)), []⟩, ⟨1, (some 5), none, .mov (.c (.int .i64 5)), []⟩]) .ret) .skip)) (.seq (.ops [⟨0, (some 9), none, .mov (.t 0), []⟩, ⟨1, (some 10), none, .mov (.t 1), []⟩, ⟨2, (some 11), none, .call (.c (.func (.func 79) #[] #[])) [.t 9, .t 10], []⟩, ⟨3, (some 4), none, .mov (.t 11), []⟩, ⟨4, (some 5), none, .mov (.c (.int .i64 0)), []⟩]) .ret))
attribute [irreducible] c_culletref04_Vanishing
theorem run_culletref04_Vanishing {args : List Value} {w : World} {K : Value → World → Prop} (hn : args.length ≤ 12) (h : WP Tryz.prog c_culletref04_Vanishing (endQ [.t 4, .t 5] K) (initT args) w) : CallV Tryz.prog 49 args w K :=
  call_of follows Tryz.func49 (by kernel_rfl) (by kernel_rfl) hn h
def c_culletref04_vanishing : C := .seq (.ops [⟨0, (some 4), none, .mov (.c (.slice none 0 0)), []⟩]) (.seq (.ops [⟨0, (some 9), none, .bsl 32 1 [.int .u16 0] [(0, (1, .c (.int .u16 1)))], []⟩, ⟨1, (some 5), none, .mov (.t 9), []⟩]) (.seq (.seq (.ops [⟨0, (some 6), none, .mov (.c (.int .i64 0)), []⟩]) (.block 0 (.loop (.seq (.seq (.ops [⟨0, (some 10), none, .mov (.t 6), []⟩, ⟨1, (some 11), none, .mov (.t 1), []⟩, ⟨2, (some 12), none, .len (.t 11), []⟩, ⟨3, (some 13), none, .bin .lss (.t 10) (.t 12), []⟩]) (.ite (.t 13) .skip (.exit 0))) (.seq (.block 1 (.seq (.ops [⟨0, (some 16), none, .mov (.t 5), []⟩, ⟨1, (some 17), none, .len (.t 16), []⟩, ⟨2, (some 18), none, .bin .add (.t 17) (.c (.int .i64 1)), []⟩, ⟨3, (some 19), none, .mks 32 2 [.int .u16 0] (.t 18) (.t 18), []⟩, ⟨4, (some 7), none, .mov (.t 19), []⟩]) (.seq (.seq (.ops [⟨0, (some 8), none, .mov (.c (.int .i64 0)), []⟩]) (.block 2 (.loop (.seq (.seq (.ops [⟨0, (some 20), none, .mov (.t 8), []⟩, ⟨1, (some 21), none, .mov (.t 5), []⟩, ⟨2, (some 22), none, .len (.t 21), []⟩, ⟨3, (some 23), none, .bin .lss (.t 20) (.t 22), []⟩]) (.ite (.t 23) .skip (.exit 2))) (.seq (.block 3 (.seq (.dops [⟨0, (some 26), none, .mov (.t 7), []⟩, ⟨1, (some 27), none, .mov (.t 8), []⟩, ⟨2, (some 28), none, .bin .add (.t 27) (.c (.int .i64 1)), []⟩, ⟨3, (some 29), none, .mov (.t 7), []⟩, ⟨4, (some 30), none, .mov (.t 8), []⟩, ⟨5, (some 31), none, .bin .add (.t 30) (.c (.int .i64 1)), []⟩, ⟨6, (some 32), none, .ixs 1 (.t 29) (.t 31), []⟩, ⟨7, (some 33), none, .ld (.t 32), []⟩, ⟨8, (some 34), none, .mov (.t 5), []⟩, ⟨9, (some 35), none, .mov (.t 8), []⟩, ⟨10, (some 36), none, .ixs 1 (.t 34) (.t 35), []⟩, ⟨11, (some 37), none, .ld (.t 36), []⟩, ⟨12, (some 38), none, .bin .xor (.t 33) (.t 37), []⟩, ⟨13, (some 39), none, .ixs 1 (.t 26) (.t 28), []⟩, ⟨14, none, none, .st (.t 39) (.t 38), []⟩]) (.dops [⟨0, (some 40), none, .mov (.t 7), []⟩, ⟨1, (some 41), none, .mov (.t 8), []⟩, ⟨2, (some 42), none, .mov (.t 7), []⟩, ⟨3, (some 43), none, .mov (.t 8), []⟩, ⟨4, (some 44), none, .ixs 1 (.t 42) (.t 43), []⟩, ⟨5, (some 45), none, .ld (.t 44), []⟩, ⟨6, (some 46), none, .mov (.t 0), []⟩, ⟨7, (some 47), none, .mov (.t 5), []⟩, ⟨8, (some 48), none, .mov (.t 8), []⟩, ⟨9, (some 49), none, .ixs 1 (.t 47) (.t 48), []⟩, ⟨10, (some 50), none, .ld (.t 49), []⟩, ⟨11, (some 51), none, .mov (.t 1), []⟩, ⟨12, (some 52), none, .mov (.t 6), []⟩, ⟨13, (some 53), none, .ixs 1 (.t 51) (.t 52), []⟩, ⟨14, (some 54), none, .ld (.t 53), []⟩, ⟨15, (some 55), none, .call (.c (.func (.func 67) #[] #[])) [.t 46, .t 50, .t 54], [5]⟩, ⟨16, (some 56), none, .bin .xor (.t 45) (.t 55), []⟩, ⟨17, (some 57), none, .ixs 1 (.t 40) (.t 41), []⟩, ⟨18, none, none, .st (.t 57) (.t 56), []⟩]))) (.ops [⟨0, (some 24), none, .mov (.t 8), []⟩, ⟨1, (some 25), none, .bin .add (.t 24) (.c (.int .i64 1)), []⟩, ⟨2, (some 8), none, .mov (.t 25), []⟩])))))) (.ops [⟨0, (some 58), none, .mov (.t 7), []⟩, ⟨1, (some 5), none, .mov (.t 58), []⟩])))) (.ops [⟨0, (some 14), none, .mov (.t 6), []⟩, ⟨1, (some 15), none, .bin .add (.t 14) (.c (.int .i64 1)), []⟩, ⟨2, (some 6), none, .mov (.t 15), []⟩])))))) (.seq (.ops [⟨0, (some 59), none, .mov (.t 5), []⟩, ⟨1, (some 4), none, .mov (.t 59), []⟩]) .ret)))
attribute [irreducible] c_culletref04_vanishing
theorem run_culletref04_vanishing {args : List Value} {w : World} {K : Value → World → Prop} (hn : args.length ≤ 60) (h : WP Tryz.prog c_culletref04_vanishing (endQ [.t 4] K) (initT args) w) : CallV Tryz.prog 79 args w K :=
  call_of follows Tryz.func79 (by kernel_rfl) (by kernel_rfl) hn h
end Go.Proofs.YtcdagkcchfibjaaGreat.Fw
namespace Go.Proofs.YtcdagkcchfibjaaGreat.Fw
open Go Go.Fw
theorem culletref04_vanishing_w_spec (w : World) (s : Value) (l : List (El 16)) (h : Sl w s (l.map em16)) (hb : l.length ≤ 1048576) :
    CallV Tryz.prog 79 [.bool true, s] w fun v w' => ∃ m : List (El 16), Ow w.heap.size w' v (m.map em16) ∧ m.length = l.length + 1 ∧ co m = vps l ∧ RowKit.Below w.heap.size w w' := by
  refine run_culletref04_vanishing (by simp) ?_
  simp only [c_culletref04_vanishing, WS, List.getElem_cons_zero, List.getElem_cons_succ, Option.isNone_some, Option.isNone_none, List.getD_cons_zero, List.getD_cons_succ, I.at, atL, atO, atP, evp, evs, retV, ↓reduceIte, Nat.reduceEqDiff, reduceCtorEq]
  have hm : (l.map em16).length = l.length := List.length_map ..
  refine X_bsl (zs := [(⟨1⟩ : El 16)]) (by rfl) (by rfl) fun p0 w1 ho hB => ?_
  simp (maxSteps := 1000000) (disch := omega) only [WS, List.getElem_cons_zero, List.getElem_cons_succ, Option.isNone_some, Option.isNone_none, List.getD_cons_zero, List.getD_cons_succ, I.at, atL, atO, atP, evp, evs, retV, ↓reduceIte, Nat.reduceEqDiff, reduceCtorEq, AS]
  have h1e : [(⟨1⟩ : El 16)] = [(1 : El 16)].map em16 := rfl
  rw [h1e] at ho
  refine loop_of (fun t w' => t 0 = .bool true ∧ t 1 = s ∧ RowKit.Below w.heap.size w w' ∧ ∃ (i : Nat) (p : Value) (ls : List (El 16)), t 6 = .int .i64 (i : Int) ∧ i ≤ l.length ∧ t 5 = p ∧ Ow w.heap.size w' p (ls.map em16) ∧ ls.length = i + 1 ∧ co ls = vps (l.take i))
    (fun t _ => l.length - (toI (t 6)).toNat) ⟨by simp only [WS, List.getElem_cons_zero, List.getElem_cons_succ, Option.isNone_some, Option.isNone_none, List.getD_cons_zero, List.getD_cons_succ, I.at, atL, atO, atP, evp, evs, retV, ↓reduceIte, Nat.reduceEqDiff, reduceCtorEq], by simp only [WS, List.getElem_cons_zero, List.getElem_cons_succ, Option.isNone_some, Option.isNone_none, List.getD_cons_zero, List.getD_cons_succ, I.at, atL, atO, atP, evp, evs, retV, ↓reduceIte, Nat.reduceEqDiff, reduceCtorEq], hB, 0, p0, [1], rfl, by omega, by simp only [WS, List.getElem_cons_zero, List.getElem_cons_succ, Option.isNone_some, Option.isNone_none, List.getD_cons_zero, List.getD_cons_succ, I.at, atL, atO, atP, evp, evs, retV, ↓reduceIte, Nat.reduceEqDiff, reduceCtorEq], ho, rfl, by
      rw [List.take_zero]
      refine Ps.ext fun k => ?_
      cases k <;> rfl⟩ ?_
  clear ho hB h1e
  rintro t w2 ⟨t0, t1, B, i, p, ls, t6, hi, t5, ho, hll, hc⟩
  have hml : (ls.map em16).length = ls.length := List.length_map ..
  by_cases hlt : i < l.length
  · have hlt2 : i < (l.map em16).length := by omega
    have hg1 : (l.map em16)[i] = em16 l[i] := List.getElem_map ..
    simp (maxSteps := 1000000) (disch := omega) only [WS, List.getElem_cons_zero, List.getElem_cons_succ, Option.isNone_some, Option.isNone_none, List.getD_cons_zero, List.getD_cons_succ, I.at, atL, atO, atP, evp, evs, retV, ↓reduceIte, Nat.reduceEqDiff, reduceCtorEq, AS, t0, t1, t5, t6, (h.up B).Xlen, hm, ho.sl.Xlen, hml]
    refine X_mks (x := (0 : El 16)) (n := ls.length + 1) (by simp only [maxBytes]; omega) (by omega) fun q w3 oq hC => ?_
    have hz : List.replicate (ls.length + 1) (0 : El 16) = (List.replicate (ls.length + 1) (0 : El 16)).map em16 := by rw [List.map_replicate]; rfl
    rw [hz] at oq
    simp (maxSteps := 1000000) (disch := omega) only [WS, List.getElem_cons_zero, List.getElem_cons_succ, Option.isNone_some, Option.isNone_none, List.getD_cons_zero, List.getD_cons_succ, I.at, atL, atO, atP, evp, evs, retV, ↓reduceIte, Nat.reduceEqDiff, reduceCtorEq, AS, t0, t1, t5, t6]
    refine loop_of (fun t w' => t 0 = .bool true ∧ t 1 = s ∧ t 5 = p ∧ t 6 = .int .i64 (i : Int) ∧ t 7 = q ∧ RowKit.Below w2.heap.size w2 w' ∧ ∃ (j : Nat) (ms : List (El 16)), t 8 = .int .i64 (j : Int) ∧ j ≤ ls.length ∧ Ow w2.heap.size w' q (ms.map em16) ∧ ms.length = ls.length + 1 ∧ ∀ u, (co ms).c u = (if 1 ≤ u ∧ u - 1 < j then (co ls).c (u - 1) else 0) + (if u < j then (co ls).c u * l[i] else 0))
      (fun t _ => ls.length - (toI (t 8)).toNat) ⟨by simp only [WS, List.getElem_cons_zero, List.getElem_cons_succ, Option.isNone_some, Option.isNone_none, List.getD_cons_zero, List.getD_cons_succ, I.at, atL, atO, atP, evp, evs, retV, ↓reduceIte, Nat.reduceEqDiff, reduceCtorEq]; exact t0, by simp only [WS, List.getElem_cons_zero, List.getElem_cons_succ, Option.isNone_some, Option.isNone_none, List.getD_cons_zero, List.getD_cons_succ, I.at, atL, atO, atP, evp, evs, retV, ↓reduceIte, Nat.reduceEqDiff, reduceCtorEq]; exact t1, by simp only [WS, List.getElem_cons_zero, List.getElem_cons_succ, Option.isNone_some, Option.isNone_none, List.getD_cons_zero, List.getD_cons_succ, I.at, atL, atO, atP, evp, evs, retV, ↓reduceIte, Nat.reduceEqDiff, reduceCtorEq]; exact t5, by simp only [WS, List.getElem_cons_zero, List.getElem_cons_succ, Option.isNone_some, Option.isNone_none, List.getD_cons_zero, List.getD_cons_succ, I.at, atL, atO, atP, evp, evs, retV, ↓reduceIte, Nat.reduceEqDiff, reduceCtorEq]; exact t6, by simp only [WS, List.getElem_cons_zero, List.getElem_cons_succ, Option.isNone_some, Option.isNone_none, List.getD_cons_zero, List.getD_cons_succ, I.at, atL, atO, atP, evp, evs, retV, ↓reduceIte, Nat.reduceEqDiff, reduceCtorEq], hC, 0, _, rfl, by omega, oq, List.length_replicate .., fun u => by rw [co_replicate, if_neg (by omega), if_neg (by omega), El.add_zero]; rfl⟩ ?_
    clear t0 t1 t5 t6 oq hC hz
    rintro t w4 ⟨t0, t1, t5, t6, t7, C, j, ms, t8, hj, om, hms, hmc⟩
    have pl := (ho.up C).sl
    by_cases hjl : j < ls.length
    · have jl : j < (ls.map em16).length := by omega
      have j1 : j + 1 < ms.length := by omega
      have j0 : j < ms.length := by omega
      have j1m : j + 1 < (ms.map em16).length := by rw [List.length_map]; exact j1
      have e1 : (ms.map em16)[j + 1] = em16 ms[j + 1] := List.getElem_map ..
      have e2 : (ls.map em16)[j] = em16 ls[j] := List.getElem_map ..
      simp (maxSteps := 1000000) (disch := omega) only [WS, List.getElem_cons_zero, List.getElem_cons_succ, Option.isNone_some, Option.isNone_none, List.getD_cons_zero, List.getD_cons_succ, I.at, atL, atO, atP, evp, evs, retV, ↓reduceIte, Nat.reduceEqDiff, reduceCtorEq, AS, t0, t1, t5, t6, t7, t8, pl.Xlen, hml]
      refine WP_dops ?_
      have o1 := om.sl.drew
      have p1 := pl.drew
      simp (maxSteps := 1000000) (disch := omega) only [ES, List.mem_cons, List.not_mem_nil, implies_true, forall_const, WS, List.getElem_cons_zero, List.getElem_cons_succ, Option.isNone_some, Option.isNone_none, List.getD_cons_zero, List.getD_cons_succ, I.at, atL, atO, atP, evp, evs, retV, ↓reduceIte, Nat.reduceEqDiff, reduceCtorEq, AS, t0, t1, t5, t6, t7, t8, o1.Eix j1m, o1.Eld j1m, p1.Eix jl, p1.Eld jl, e1, e2, cell_e16, xor16, em16_add]
      refine Ow.Est om.drew j1m (em16 (ms[j + 1] + ls[j])) fun w5 om5 hg5 => ?_
      rw [← List.map_set] at om5
      have C := C.grown (grown_of_drew hg5) C.size fun b hb => (om.blk b hb).1
      have lset : ((ms.set (j + 1) (ms[j + 1] + ls[j])).map em16).length = ms.length := by rw [List.length_map, List.length_set]
      have j0m : j < ((ms.set (j + 1) (ms[j + 1] + ls[j])).map em16).length := by omega
      have e3 : ((ms.set (j + 1) (ms[j + 1] + ls[j])).map em16)[j] = em16 ms[j] := by rw [List.getElem_map, List.getElem_set_ne (by omega)]
      have pl := (ho.up C).sl
      have hl1 := h.up (B.trans (C.mono B.size))
      simp (maxSteps := 1000000) (disch := omega) only [ES, List.mem_cons, List.not_mem_nil, implies_true, forall_const, WS, List.getElem_cons_zero, List.getElem_cons_succ, Option.isNone_some, Option.isNone_none, List.getD_cons_zero, List.getD_cons_succ, I.at, atL, atO, atP, evp, evs, retV, ↓reduceIte, Nat.reduceEqDiff, reduceCtorEq, AS, t0, t1, t5, t6, t7, t8]
      refine WP_dops ?_
      have o2 := om5.sl.drew
      have p2 := pl.drew
      have h2 := hl1.drew
      have see : Fw.sees Tryz.prog (.ld (.c (elP q j))) w5.drew (.int .u16 ((em16 ms[j]).v.toNat : Int)) = True := by rw [← e3]; exact o2.sees j0m Tryz.prog
      simp (maxSteps := 1000000) (disch := omega) only [ES, List.mem_cons, List.not_mem_nil, implies_true, forall_const, WS, List.getElem_cons_zero, List.getElem_cons_succ, Option.isNone_some, Option.isNone_none, List.getD_cons_zero, List.getD_cons_succ, I.at, atL, atO, atP, evp, evs, retV, ↓reduceIte, Nat.reduceEqDiff, reduceCtorEq, AS, t0, t1, t5, t6, t7, t8, o2.Eix j0m, o2.Eld j0m, p2.Eix jl, p2.Eld jl, h2.Eix hlt2, h2.Eld hlt2, hg1, e2, e3, cell_e16]
      refine E_call0 ((culletref04_timesx_w_spec w5.drew ls[j] l[i]).mono ?_)
      rintro _ w6 ⟨rfl, rfl⟩
      simp (maxSteps := 1000000) (disch := omega) only [ES, List.mem_cons, List.not_mem_nil, implies_true, forall_const, WS, List.getElem_cons_zero, List.getElem_cons_succ, Option.isNone_some, Option.isNone_none, List.getD_cons_zero, List.getD_cons_succ, I.at, atL, atO, atP, evp, evs, retV, ↓reduceIte, Nat.reduceEqDiff, reduceCtorEq, AS, t0, t1, t5, t6, t7, t8, see, o2.Eix j0m, xor16, em16_add]
      refine Ow.Est om5.drew j0m (em16 (ms[j] + ls[j] * l[i])) fun w7 om7 hg7 => ?_
      rw [← List.map_set] at om7
      simp (maxSteps := 1000000) (disch := omega) only [ES, List.mem_cons, List.not_mem_nil, implies_true, forall_const, WS, List.getElem_cons_zero, List.getElem_cons_succ, Option.isNone_some, Option.isNone_none, List.getD_cons_zero, List.getD_cons_succ, I.at, atL, atO, atP, evp, evs, retV, ↓reduceIte, Nat.reduceEqDiff, reduceCtorEq, AS, t0, t1, t5, t6, t7, t8]
      refine ⟨⟨C.grown (grown_of_drew hg7) C.size fun b hb => (om5.blk b hb).1, j + 1, _, rfl, by omega, om7, by rw [List.length_set, List.length_set]; exact hms, fun u => ?_⟩, by omega⟩
      rw [co_set _ (by rw [List.length_set]; exact j0), co_set _ j1, hmc u]
      have g0 := hmc j
      have g1 := hmc (j + 1)
      rw [co_get ms j0, if_neg (by omega : ¬ j < j), El.add_zero] at g0
      rw [co_get ms j1, if_neg (by omega), if_neg (by omega), El.add_zero] at g1
      by_cases hu : u = j
      · subst hu
        rw [if_pos rfl, g0, co_get ls hjl]
        by_cases h1 : 1 ≤ u
        · rw [if_pos ⟨h1, by omega⟩, if_pos ⟨h1, by omega⟩, if_pos (by omega)]
        · rw [if_neg (by omega), if_neg (by omega), if_pos (by omega)]
      · rw [if_neg hu]
        by_cases hu1 : u = j + 1
        · subst hu1
          rw [if_pos rfl, g1, El.zero_add, if_pos ⟨by omega, by omega⟩, if_neg (by omega), El.add_zero, Nat.add_sub_cancel, co_get ls hjl]
        · rw [if_neg hu1]
          have q1 : (1 ≤ u ∧ u - 1 < j + 1) = (1 ≤ u ∧ u - 1 < j) := propext ⟨fun h => by omega, fun h => by omega⟩
          have q2 : (u < j + 1) = (u < j) := propext ⟨fun h => by omega, fun h => by omega⟩
          simp only [q1, q2]
    · obtain rfl : j = ls.length := by omega
      simp (maxSteps := 1000000) (disch := omega) only [WS, List.getElem_cons_zero, List.getElem_cons_succ, Option.isNone_some, Option.isNone_none, List.getD_cons_zero, List.getD_cons_succ, I.at, atL, atO, atP, evp, evs, retV, ↓reduceIte, Nat.reduceEqDiff, reduceCtorEq, AS, t0, t1, t5, t6, t7, t8, pl.Xlen, hml]
      refine ⟨⟨B.trans (C.mono B.size), i + 1, q, ms, rfl, by omega, rfl, om.mono B.size, by omega, ?_⟩, by omega⟩
      rw [vps_take l hlt, ← hc]
      refine Ps.ext fun u => ?_
      rw [hmc u, lin_mul, El.add_comm]
      congr 1
      · by_cases hu : u < ls.length
        · rw [if_pos hu, El.mul_comm]
        · rw [if_neg hu, co_dg ls u (by omega), El.mul_zero]
      · by_cases hu : u = 0
        · rw [if_neg (by omega), if_pos hu]
        · rw [if_neg hu]
          by_cases hu2 : u - 1 < ls.length
          · rw [if_pos ⟨by omega, hu2⟩]
          · rw [if_neg (by omega), co_dg ls (u - 1) (by omega)]
  · obtain rfl : i = l.length := by omega
    rw [List.take_length] at hc
    simp (maxSteps := 1000000) (disch := omega) only [WS, List.getElem_cons_zero, List.getElem_cons_succ, Option.isNone_some, Option.isNone_none, List.getD_cons_zero, List.getD_cons_succ, I.at, atL, atO, atP, evp, evs, retV, ↓reduceIte, Nat.reduceEqDiff, reduceCtorEq, AS, t0, t1, t5, t6, (h.up B).Xlen, hm]
    exact ⟨ls, ho, hll, hc, B⟩
theorem culletref04_Vanishing_w_spec (w : World) (s : Value) (l : List (El 16)) (h : Sl w s (l.map em16)) (hb : l.length ≤ 70368744175616) :
    CallV Tryz.prog 49 [.bool true, s] w fun v w' => RowKit.Below w.heap.size w w' ∧ ((l.length ≤ 1024 ∧ ∃ (z : Value) (m : List (El 16)), v = .tuple #[z, .int .i64 0] ∧ Ow w.heap.size w' z (m.map em16) ∧ m.length = l.length + 1 ∧ co m = vps l) ∨ (¬ l.length ≤ 1024 ∧ v = .tuple #[.slice none 0 0, .int .i64 5])) := by
  refine run_culletref04_Vanishing (by simp) ?_
  simp only [c_culletref04_Vanishing, WS, List.getElem_cons_zero, List.getElem_cons_succ, Option.isNone_some, Option.isNone_none, List.getD_cons_zero, List.getD_cons_succ, I.at, atL, atO, atP, evp, evs, retV, ↓reduceIte, Nat.reduceEqDiff, reduceCtorEq]
  have hm : (l.map em16).length = l.length := List.length_map ..
  by_cases hl : l.length ≤ 1024
  · simp (maxSteps := 1000000) (disch := omega) only [WS, List.getElem_cons_zero, List.getElem_cons_succ, Option.isNone_some, Option.isNone_none, List.getD_cons_zero, List.getD_cons_succ, I.at, atL, atO, atP, evp, evs, retV, ↓reduceIte, Nat.reduceEqDiff, reduceCtorEq, AS, h.Xlen, hm]
    refine X_call0 ((culletref04_vanishing_w_spec w s l h (by omega)).mono ?_)
    rintro v w2 ⟨m, om, lm, cm, hB⟩
    simp (maxSteps := 1000000) (disch := omega) only [WS, List.getElem_cons_zero, List.getElem_cons_succ, Option.isNone_some, Option.isNone_none, List.getD_cons_zero, List.getD_cons_succ, I.at, atL, atO, atP, evp, evs, retV, ↓reduceIte, Nat.reduceEqDiff, reduceCtorEq, AS]
    exact ⟨hB, Or.inl ⟨hl, v, m, rfl, om, lm, cm⟩⟩
  · simp (maxSteps := 1000000) (disch := omega) only [WS, List.getElem_cons_zero, List.getElem_cons_succ, Option.isNone_some, Option.isNone_none, List.getD_cons_zero, List.getD_cons_succ, I.at, atL, atO, atP, evp, evs, retV, ↓reduceIte, Nat.reduceEqDiff, reduceCtorEq, AS, h.Xlen, hm]
    exact ⟨RowKit.Below.refl _ _, Or.inr (by omega)⟩
end Go.Proofs.YtcdagkcchfibjaaGreat.Fw

namespace Go.Proofs.YtcdagkcchfibjaaGreat.Fw
open Go Go.Fw
theorem culletref04_vanishing_b_spec (w : World) (s : Value) (l : List (El 8)) (h : Sl w s (l.map em8)) (hb : l.length ≤ 1048576) :
    CallV Tryz.prog 79 [.bool false, s] w fun v w' => ∃ m : List (El 8), Ow w.heap.size w' v (m.map em8) ∧ m.length = l.length + 1 ∧ co m = vps l ∧ RowKit.Below w.heap.size w w' := by
  refine run_culletref04_vanishing (by simp) ?_
  simp only [c_culletref04_vanishing, WS, List.getElem_cons_zero, List.getElem_cons_succ, Option.isNone_some, Option.isNone_none, List.getD_cons_zero, List.getD_cons_succ, I.at, atL, atO, atP, evp, evs, retV, ↓reduceIte, Nat.reduceEqDiff, reduceCtorEq]
  have hm : (l.map em8).length = l.length := List.length_map ..
  refine X_bsl (zs := [(⟨1⟩ : El 16)]) (by rfl) (by rfl) fun p0 w1 ho hB => ?_
  simp (maxSteps := 1000000) (disch := omega) only [WS, List.getElem_cons_zero, List.getElem_cons_succ, Option.isNone_some, Option.isNone_none, List.getD_cons_zero, List.getD_cons_succ, I.at, atL, atO, atP, evp, evs, retV, ↓reduceIte, Nat.reduceEqDiff, reduceCtorEq, AS]
  have h1e : [(⟨1⟩ : El 16)] = [(1 : El 8)].map em8 := rfl
  rw [h1e] at ho
  refine loop_of (fun t w' => t 0 = .bool false ∧ t 1 = s ∧ RowKit.Below w.heap.size w w' ∧ ∃ (i : Nat) (p : Value) (ls : List (El 8)), t 6 = .int .i64 (i : Int) ∧ i ≤ l.length ∧ t 5 = p ∧ Ow w.heap.size w' p (ls.map em8) ∧ ls.length = i + 1 ∧ co ls = vps (l.take i))
    (fun t _ => l.length - (toI (t 6)).toNat) ⟨by simp only [WS, List.getElem_cons_zero, List.getElem_cons_succ, Option.isNone_some, Option.isNone_none, List.getD_cons_zero, List.getD_cons_succ, I.at, atL, atO, atP, evp, evs, retV, ↓reduceIte, Nat.reduceEqDiff, reduceCtorEq], by simp only [WS, List.getElem_cons_zero, List.getElem_cons_succ, Option.isNone_some, Option.isNone_none, List.getD_cons_zero, List.getD_cons_succ, I.at, atL, atO, atP, evp, evs, retV, ↓reduceIte, Nat.reduceEqDiff, reduceCtorEq], hB, 0, p0, [1], rfl, by omega, by simp only [WS, List.getElem_cons_zero, List.getElem_cons_succ, Option.isNone_some, Option.isNone_none, List.getD_cons_zero, List.getD_cons_succ, I.at, atL, atO, atP, evp, evs, retV, ↓reduceIte, Nat.reduceEqDiff, reduceCtorEq], ho, rfl, by
      rw [List.take_zero]
      refine Ps.ext fun k => ?_
      cases k <;> rfl⟩ ?_
  clear ho hB h1e
  rintro t w2 ⟨t0, t1, B, i, p, ls, t6, hi, t5, ho, hll, hc⟩
  have hml : (ls.map em8).length = ls.length := List.length_map ..
  by_cases hlt : i < l.length
  · have hlt2 : i < (l.map em8).length := by omega
    have hg1 : (l.map em8)[i] = em8 l[i] := List.getElem_map ..
    simp (maxSteps := 1000000) (disch := omega) only [WS, List.getElem_cons_zero, List.getElem_cons_succ, Option.isNone_some, Option.isNone_none, List.getD_cons_zero, List.getD_cons_succ, I.at, atL, atO, atP, evp, evs, retV, ↓reduceIte, Nat.reduceEqDiff, reduceCtorEq, AS, t0, t1, t5, t6, (h.up B).Xlen, hm, ho.sl.Xlen, hml]
    refine X_mks (x := (0 : El 16)) (n := ls.length + 1) (by simp only [maxBytes]; omega) (by omega) fun q w3 oq hC => ?_
    have hz : List.replicate (ls.length + 1) (0 : El 16) = (List.replicate (ls.length + 1) (0 : El 8)).map em8 := by rw [List.map_replicate]; rfl
    rw [hz] at oq
    simp (maxSteps := 1000000) (disch := omega) only [WS, List.getElem_cons_zero, List.getElem_cons_succ, Option.isNone_some, Option.isNone_none, List.getD_cons_zero, List.getD_cons_succ, I.at, atL, atO, atP, evp, evs, retV, ↓reduceIte, Nat.reduceEqDiff, reduceCtorEq, AS, t0, t1, t5, t6]
    refine loop_of (fun t w' => t 0 = .bool false ∧ t 1 = s ∧ t 5 = p ∧ t 6 = .int .i64 (i : Int) ∧ t 7 = q ∧ RowKit.Below w2.heap.size w2 w' ∧ ∃ (j : Nat) (ms : List (El 8)), t 8 = .int .i64 (j : Int) ∧ j ≤ ls.length ∧ Ow w2.heap.size w' q (ms.map em8) ∧ ms.length = ls.length + 1 ∧ ∀ u, (co ms).c u = (if 1 ≤ u ∧ u - 1 < j then (co ls).c (u - 1) else 0) + (if u < j then (co ls).c u * l[i] else 0))
      (fun t _ => ls.length - (toI (t 8)).toNat) ⟨by simp only [WS, List.getElem_cons_zero, List.getElem_cons_succ, Option.isNone_some, Option.isNone_none, List.getD_cons_zero, List.getD_cons_succ, I.at, atL, atO, atP, evp, evs, retV, ↓reduceIte, Nat.reduceEqDiff, reduceCtorEq]; exact t0, by simp only [WS, List.getElem_cons_zero, List.getElem_cons_succ, Option.isNone_some, Option.isNone_none, List.getD_cons_zero, List.getD_cons_succ, I.at, atL, atO, atP, evp, evs, retV, ↓reduceIte, Nat.reduceEqDiff, reduceCtorEq]; exact t1, by simp only [WS, List.getElem_cons_zero, List.getElem_cons_succ, Option.isNone_some, Option.isNone_none, List.getD_cons_zero, List.getD_cons_succ, I.at, atL, atO, atP, evp, evs, retV, ↓reduceIte, Nat.reduceEqDiff, reduceCtorEq]; exact t5, by simp only [WS, List.getElem_cons_zero, List.getElem_cons_succ, Option.isNone_some, Option.isNone_none, List.getD_cons_zero, List.getD_cons_succ, I.at, atL, atO, atP, evp, evs, retV, ↓reduceIte, Nat.reduceEqDiff, reduceCtorEq]; exact t6, by simp only [WS, List.getElem_cons_zero, List.getElem_cons_succ, Option.isNone_some, Option.isNone_none, List.getD_cons_zero, List.getD_cons_succ, I.at, atL, atO, atP, evp, evs, retV, ↓reduceIte, Nat.reduceEqDiff, reduceCtorEq], hC, 0, _, rfl, by omega, oq, List.length_replicate .., fun u => by rw [co_replicate, if_neg (by omega), if_neg (by omega), El.add_zero]; rfl⟩ ?_
    clear t0 t1 t5 t6 oq hC hz
    rintro t w4 ⟨t0, t1, t5, t6, t7, C, j, ms, t8, hj, om, hms, hmc⟩
    have pl := (ho.up C).sl
    by_cases hjl : j < ls.length
    · have jl : j < (ls.map em8).length := by omega
      have j1 : j + 1 < ms.length := by omega
      have j0 : j < ms.length := by omega
      have j1m : j + 1 < (ms.map em8).length := by rw [List.length_map]; exact j1
      have e1 : (ms.map em8)[j + 1] = em8 ms[j + 1] := List.getElem_map ..
      have e2 : (ls.map em8)[j] = em8 ls[j] := List.getElem_map ..
      simp (maxSteps := 1000000) (disch := omega) only [WS, List.getElem_cons_zero, List.getElem_cons_succ, Option.isNone_some, Option.isNone_none, List.getD_cons_zero, List.getD_cons_succ, I.at, atL, atO, atP, evp, evs, retV, ↓reduceIte, Nat.reduceEqDiff, reduceCtorEq, AS, t0, t1, t5, t6, t7, t8, pl.Xlen, hml]
      refine WP_dops ?_
      have o1 := om.sl.drew
      have p1 := pl.drew
      simp (maxSteps := 1000000) (disch := omega) only [ES, List.mem_cons, List.not_mem_nil, implies_true, forall_const, WS, List.getElem_cons_zero, List.getElem_cons_succ, Option.isNone_some, Option.isNone_none, List.getD_cons_zero, List.getD_cons_succ, I.at, atL, atO, atP, evp, evs, retV, ↓reduceIte, Nat.reduceEqDiff, reduceCtorEq, AS, t0, t1, t5, t6, t7, t8, o1.Eix j1m, o1.Eld j1m, p1.Eix jl, p1.Eld jl, e1, e2, cell_e16, xor16, em8_add]
      refine Ow.Est om.drew j1m (em8 (ms[j + 1] + ls[j])) fun w5 om5 hg5 => ?_
      rw [← List.map_set] at om5
      have C := C.grown (grown_of_drew hg5) C.size fun b hb => (om.blk b hb).1
      have lset : ((ms.set (j + 1) (ms[j + 1] + ls[j])).map em8).length = ms.length := by rw [List.length_map, List.length_set]
      have j0m : j < ((ms.set (j + 1) (ms[j + 1] + ls[j])).map em8).length := by omega
      have e3 : ((ms.set (j + 1) (ms[j + 1] + ls[j])).map em8)[j] = em8 ms[j] := by rw [List.getElem_map, List.getElem_set_ne (by omega)]
      have pl := (ho.up C).sl
      have hl1 := h.up (B.trans (C.mono B.size))
      simp (maxSteps := 1000000) (disch := omega) only [ES, List.mem_cons, List.not_mem_nil, implies_true, forall_const, WS, List.getElem_cons_zero, List.getElem_cons_succ, Option.isNone_some, Option.isNone_none, List.getD_cons_zero, List.getD_cons_succ, I.at, atL, atO, atP, evp, evs, retV, ↓reduceIte, Nat.reduceEqDiff, reduceCtorEq, AS, t0, t1, t5, t6, t7, t8]
      refine WP_dops ?_
      have o2 := om5.sl.drew
      have p2 := pl.drew
      have h2 := hl1.drew
      have see : Fw.sees Tryz.prog (.ld (.c (elP q j))) w5.drew (.int .u16 ((em8 ms[j]).v.toNat : Int)) = True := by rw [← e3]; exact o2.sees j0m Tryz.prog
      simp (maxSteps := 1000000) (disch := omega) only [ES, List.mem_cons, List.not_mem_nil, implies_true, forall_const, WS, List.getElem_cons_zero, List.getElem_cons_succ, Option.isNone_some, Option.isNone_none, List.getD_cons_zero, List.getD_cons_succ, I.at, atL, atO, atP, evp, evs, retV, ↓reduceIte, Nat.reduceEqDiff, reduceCtorEq, AS, t0, t1, t5, t6, t7, t8, o2.Eix j0m, o2.Eld j0m, p2.Eix jl, p2.Eld jl, h2.Eix hlt2, h2.Eld hlt2, hg1, e2, e3, cell_e16]
      refine E_call0 ((culletref04_timesx_b_spec w5.drew ls[j] l[i]).mono ?_)
      rintro _ w6 ⟨rfl, rfl⟩
      simp (maxSteps := 1000000) (disch := omega) only [ES, List.mem_cons, List.not_mem_nil, implies_true, forall_const, WS, List.getElem_cons_zero, List.getElem_cons_succ, Option.isNone_some, Option.isNone_none, List.getD_cons_zero, List.getD_cons_succ, I.at, atL, atO, atP, evp, evs, retV, ↓reduceIte, Nat.reduceEqDiff, reduceCtorEq, AS, t0, t1, t5, t6, t7, t8, see, o2.Eix j0m, xor16, em8_add]
      refine Ow.Est om5.drew j0m (em8 (ms[j] + ls[j] * l[i])) fun w7 om7 hg7 => ?_
      rw [← List.map_set] at om7
      simp (maxSteps := 1000000) (disch := omega) only [ES, List.mem_cons, List.not_mem_nil, implies_true, forall_const, WS, List.getElem_cons_zero, List.getElem_cons_succ, Option.isNone_some, Option.isNone_none, List.getD_cons_zero, List.getD_cons_succ, I.at, atL, atO, atP, evp, evs, retV, ↓reduceIte, Nat.reduceEqDiff, reduceCtorEq, AS, t0, t1, t5, t6, t7, t8]
      refine ⟨⟨C.grown (grown_of_drew hg7) C.size fun b hb => (om5.blk b hb).1, j + 1, _, rfl, by omega, om7, by rw [List.length_set, List.length_set]; exact hms, fun u => ?_⟩, by omega⟩
      rw [co_set _ (by rw [List.length_set]; exact j0), co_set _ j1, hmc u]
      have g0 := hmc j
      have g1 := hmc (j + 1)
      rw [co_get ms j0, if_neg (by omega : ¬ j < j), El.add_zero] at g0
      rw [co_get ms j1, if_neg (by omega), if_neg (by omega), El.add_zero] at g1
      by_cases hu : u = j
      · subst hu
        rw [if_pos rfl, g0, co_get ls hjl]
        by_cases h1 : 1 ≤ u
        · rw [if_pos ⟨h1, by omega⟩, if_pos ⟨h1, by omega⟩, if_pos (by omega)]
        · rw [if_neg (by omega), if_neg (by omega), if_pos (by omega)]
      · rw [if_neg hu]
        by_cases hu1 : u = j + 1
        · subst hu1
          rw [if_pos rfl, g1, El.zero_add, if_pos ⟨by omega, by omega⟩, if_neg (by omega), El.add_zero, Nat.add_sub_cancel, co_get ls hjl]
        · rw [if_neg hu1]
          have q1 : (1 ≤ u ∧ u - 1 < j + 1) = (1 ≤ u ∧ u - 1 < j) := propext ⟨fun h => by omega, fun h => by omega⟩
          have q2 : (u < j + 1) = (u < j) := propext ⟨fun h => by omega, fun h => by omega⟩
          simp only [q1, q2]
    · obtain rfl : j = ls.length := by omega
      simp (maxSteps := 1000000) (disch := omega) only [WS, List.getElem_cons_zero, List.getElem_cons_succ, Option.isNone_some, Option.isNone_none, List.getD_cons_zero, List.getD_cons_succ, I.at, atL, atO, atP, evp, evs, retV, ↓reduceIte, Nat.reduceEqDiff, reduceCtorEq, AS, t0, t1, t5, t6, t7, t8, pl.Xlen, hml]
      refine ⟨⟨B.trans (C.mono B.size), i + 1, q, ms, rfl, by omega, rfl, om.mono B.size, by omega, ?_⟩, by omega⟩
      rw [vps_take l hlt, ← hc]
      refine Ps.ext fun u => ?_
      rw [hmc u, lin_mul, El.add_comm]
      congr 1
      · by_cases hu : u < ls.length
        · rw [if_pos hu, El.mul_comm]
        · rw [if_neg hu, co_dg ls u (by omega), El.mul_zero]
      · by_cases hu : u = 0
        · rw [if_neg (by omega), if_pos hu]
        · rw [if_neg hu]
          by_cases hu2 : u - 1 < ls.length
          · rw [if_pos ⟨by omega, hu2⟩]
          · rw [if_neg (by omega), co_dg ls (u - 1) (by omega)]
  · obtain rfl : i = l.length := by omega
    rw [List.take_length] at hc
    simp (maxSteps := 1000000) (disch := omega) only [WS, List.getElem_cons_zero, List.getElem_cons_succ, Option.isNone_some, Option.isNone_none, List.getD_cons_zero, List.getD_cons_succ, I.at, atL, atO, atP, evp, evs, retV, ↓reduceIte, Nat.reduceEqDiff, reduceCtorEq, AS, t0, t1, t5, t6, (h.up B).Xlen, hm]
    exact ⟨ls, ho, hll, hc, B⟩
theorem culletref04_Vanishing_b_spec (w : World) (s : Value) (l : List (El 8)) (h : Sl w s (l.map em8)) (hb : l.length ≤ 70368744175616) :
    CallV Tryz.prog 49 [.bool false, s] w fun v w' => RowKit.Below w.heap.size w w' ∧ ((l.length ≤ 1024 ∧ ∃ (z : Value) (m : List (El 8)), v = .tuple #[z, .int .i64 0] ∧ Ow w.heap.size w' z (m.map em8) ∧ m.length = l.length + 1 ∧ co m = vps l) ∨ (¬ l.length ≤ 1024 ∧ v = .tuple #[.slice none 0 0, .int .i64 5])) := by
  refine run_culletref04_Vanishing (by simp) ?_
  simp only [c_culletref04_Vanishing, WS, List.getElem_cons_zero, List.getElem_cons_succ, Option.isNone_some, Option.isNone_none, List.getD_cons_zero, List.getD_cons_succ, I.at, atL, atO, atP, evp, evs, retV, ↓reduceIte, Nat.reduceEqDiff, reduceCtorEq]
  have hm : (l.map em8).length = l.length := List.length_map ..
  by_cases hl : l.length ≤ 1024
  · simp (maxSteps := 1000000) (disch := omega) only [WS, List.getElem_cons_zero, List.getElem_cons_succ, Option.isNone_some, Option.isNone_none, List.getD_cons_zero, List.getD_cons_succ, I.at, atL, atO, atP, evp, evs, retV, ↓reduceIte, Nat.reduceEqDiff, reduceCtorEq, AS, h.Xlen, hm]
    refine X_call0 ((culletref04_vanishing_b_spec w s l h (by omega)).mono ?_)
    rintro v w2 ⟨m, om, lm, cm, hB⟩
    simp (maxSteps := 1000000) (disch := omega) only [WS, List.getElem_cons_zero, List.getElem_cons_succ, Option.isNone_some, Option.isNone_none, List.getD_cons_zero, List.getD_cons_succ, I.at, atL, atO, atP, evp, evs, retV, ↓reduceIte, Nat.reduceEqDiff, reduceCtorEq, AS]
    exact ⟨hB, Or.inl ⟨hl, v, m, rfl, om, lm, cm⟩⟩
  · simp (maxSteps := 1000000) (disch := omega) only [WS, List.getElem_cons_zero, List.getElem_cons_succ, Option.isNone_some, Option.isNone_none, List.getD_cons_zero, List.getD_cons_succ, I.at, atL, atO, atP, evp, evs, retV, ↓reduceIte, Nat.reduceEqDiff, reduceCtorEq, AS, h.Xlen, hm]
    exact ⟨RowKit.Below.refl _ _, Or.inr (by omega)⟩
end Go.Proofs.YtcdagkcchfibjaaGreat.Fw

/- Newton's form: divided differences give the values back. -/
set_option linter.unusedVariables false
set_option linter.unusedSimpArgs false
namespace Go.Fw
open Go
section
variable {n : Nat} [F : Fd n]
/-- Divided differences, as the table is filled: entry i behind k rounds. -/
def dd (x y : Nat → El n) : Nat → Nat → El n
  | 0, i => y i
  | k + 1, i => (dd x y k i + dd x y k (i - 1)) * (x i + x (i - (k + 1))).inv
/-- The product over the points i, i + 1, .. (k of them). -/
def wX (x : Nat → El n) (i k : Nat) : Ps n := vps ((List.range k).map fun t => x (i + t))
def nw (x y : Nat → El n) (i : Nat) : Nat → Ps n
  | 0 => 0
  | k + 1 => nw x y i k + Ps.C (dd x y k (i + k)) * wX x i k
theorem wX_succ (x : Nat → El n) (i k : Nat) : wX x i (k + 1) = lin (x (i + k)) * wX x i k := by
  unfold wX
  rw [List.range_succ, List.map_append, List.map_singleton, vps_snoc]
theorem wX_dg (x : Nat → El n) (i k : Nat) : Dg (wX x i k) (k + 1) := by
  have := vps_dg ((List.range k).map fun t => x (i + t))
  rwa [List.length_map, List.length_range] at this
theorem wX_top (x : Nat → El n) (i k : Nat) : (wX x i k).c k = 1 := by
  have := vps_top ((List.range k).map fun t => x (i + t))
  rwa [List.length_map, List.length_range] at this
theorem wX_zero (x : Nat → El n) (i k j : Nat) (hj : j < k) : evn (wX x i k) (x (i + j)) (k + 1) = 0 := by
  have := (ev_vps_zero (x (i + j)) ((List.range k).map fun t => x (i + t))).2 (List.mem_map.2 ⟨j, List.mem_range.2 hj, rfl⟩)
  rwa [List.length_map, List.length_range] at this
theorem Cm_dg {f : Ps n} {d : Nat} (a : El n) (h : Dg f d) : Dg (Ps.C a * f) d := fun i hi => by rw [Ps.C_mul, h i hi, El.mul_zero]
theorem ev_Cm (a z : El n) (f : Ps n) (d : Nat) : evn (Ps.C a * f) z d = a * evn f z d := by
  rw [show Ps.C a * f = ⟨fun i => a * f.c i⟩ from Ps.ext fun i => Ps.C_mul a f i, evn_smul]
/-- A polynomial with at most k coefficients that is 0 at k points is 0. -/
theorem zero_of (x : Nat → El n) (i k : Nat) {f : Ps n} (hd : Dg f k) (hx : ∀ a b, a < k → b < k → x (i + a) = x (i + b) → a = b) (h : ∀ j, j < k → evn f (x (i + j)) k = 0) : f = 0 := by
  have h1 : co (ofc k f) = f := ofc_co hd
  have h2 : ((List.range k).map fun t => x (i + t)).Nodup := by
    unfold List.Nodup
    rw [List.pairwise_map]
    refine List.Pairwise.imp_of_mem (R := (· < ·)) (fun {a b} ha hb hab e => ?_) List.pairwise_lt_range
    have := hx a b (List.mem_range.1 ha) (List.mem_range.1 hb) e
    omega
  have := roots_zero ((List.range k).map fun t => x (i + t)) (ofc k f) h2 (by rw [ofc_len, List.length_map, List.length_range]; exact Nat.le_refl _) fun z hz => by
    obtain ⟨j, hj, rfl⟩ := List.mem_map.1 hz
    rw [evl_co, h1, ofc_len]
    exact h j (List.mem_range.1 hj)
  rw [← h1, this]
theorem El.eq_of_add0 {a b : El n} (h : a + b = 0) : a = b := by
  have : a + b + b = 0 + b := by rw [h]
  rwa [El.add_assoc, El.add_self, El.add_zero, El.zero_add] at this
theorem nw_dg (x y : Nat → El n) (i : Nat) : ∀ k, Dg (nw x y i k) k
  | 0 => fun _ _ => rfl
  | k + 1 => ((nw_dg x y i k).mono (by omega)).add (Cm_dg _ (wX_dg x i k))
theorem nw_top (x y : Nat → El n) (i k : Nat) : (nw x y i (k + 1)).c k = dd x y k (i + k) := by
  show (nw x y i k + _).c k = _
  rw [Ps.add_c, nw_dg x y i k k (Nat.le_refl _), Ps.C_mul, wX_top, El.mul_one, El.zero_add]
/-- Newton's form takes the values. -/
theorem nw_ev (x y : Nat → El n) (N : Nat) (hx : ∀ a b, a < N → b < N → x a = x b → a = b) : ∀ k i, i + k ≤ N → ∀ j, j < k → evn (nw x y i k) (x (i + j)) k = y (i + j)
  | 0, i, _, j, hj => by omega
  | 1, i, _, j, hj => by
    obtain rfl : j = 0 := by omega
    have e1 : nw x y i 1 = Ps.C (y i) * wX x i 0 := by
      show 0 + Ps.C (dd x y 0 (i + 0)) * wX x i 0 = _
      rw [Ps.zero_add]; rfl
    rw [e1, ev_Cm]
    have e2 : evn (wX x i 0) (x (i + 0)) 1 = 1 := by
      show (1 : El n) + x (i + 0) * 0 = 1
      rw [El.mul_zero, El.add_zero]
    rw [e2, El.mul_one]; rfl
  | k + 2, i, hN, j, hj => by
    have hne : x (i + k + 1) + x i ≠ 0 := fun e => by
      have := hx _ _ (by omega) (by omega) (El.eq_of_add0 e)
      omega
    generalize hc : (x (i + k + 1) + x i).inv = c
    have hcm : c * (x (i + k + 1) + x i) = 1 := by rw [← hc, El.mul_comm]; exact El.mul_inv _ hne
    have A1 := nw_ev x y N hx (k + 1) i (by omega)
    have B1 := nw_ev x y N hx (k + 1) (i + 1) (by omega)
    have dA := nw_dg x y i (k + 1)
    have dB := nw_dg x y (i + 1) (k + 1)
    have tA := nw_top x y i k
    have tB := nw_top x y (i + 1) k
    have hS : nw x y i (k + 2) = nw x y i (k + 1) + Ps.C (dd x y (k + 1) (i + (k + 1))) * wX x i (k + 1) := rfl
    have hdd : dd x y (k + 1) (i + (k + 1)) = c * (dd x y k (i + 1 + k) + dd x y k (i + k)) := by
      show (dd x y k (i + (k + 1)) + dd x y k (i + (k + 1) - 1)) * (x (i + (k + 1)) + x (i + (k + 1) - (k + 1))).inv = _
      rw [show i + (k + 1) - 1 = i + k by omega, show i + (k + 1) - (k + 1) = i by omega, show i + (k + 1) = i + 1 + k by omega, ← hc, show i + k + 1 = i + 1 + k by omega, El.mul_comm]
    generalize nw x y i (k + 1) = A at A1 dA tA hS
    generalize nw x y (i + 1) (k + 1) = Bp at B1 dB tB
    obtain ⟨M, hM⟩ : ∃ M, M = Ps.C c * (lin (x i) * Bp + lin (x (i + k + 1)) * A) := ⟨_, rfl⟩
    have dM : Dg M (k + 2) := by rw [hM]; exact Cm_dg _ ((dB.lin_mul _).add (dA.lin_mul _))
    have eM : ∀ z, evn M z (k + 2) = c * ((x i + z) * evn Bp z (k + 1) + (x (i + k + 1) + z) * evn A z (k + 1)) := fun z => by
      rw [hM, ev_Cm, evn_add, ev_lin_mul _ _ dB, ev_lin_mul _ _ dA]
    have vM : ∀ j, j < k + 2 → evn M (x (i + j)) (k + 2) = y (i + j) := fun j hj => by
      rw [eM]
      by_cases h0 : j = 0
      · subst h0
        rw [Nat.add_zero, El.add_self, El.zero_mul, El.zero_add, show evn A (x i) (k + 1) = y i from A1 0 (by omega), ← El.mul_assoc, hcm, El.one_mul]
      by_cases h1 : j = k + 1
      · subst h1
        have h2 := B1 k (by omega)
        rw [show i + 1 + k = i + (k + 1) by omega] at h2
        rw [h2, show x (i + k + 1) = x (i + (k + 1)) from rfl, El.add_self, El.zero_mul, El.add_zero, ← El.mul_assoc, El.add_comm (x i), show x (i + (k + 1)) = x (i + k + 1) from rfl, hcm, El.one_mul]
      · have h2 := B1 (j - 1) (by omega)
        rw [show i + 1 + (j - 1) = i + j by omega] at h2
        rw [h2, A1 j (by omega), ← El.add_mul, show x i + x (i + j) + (x (i + k + 1) + x (i + j)) = x (i + k + 1) + x i + (x (i + j) + x (i + j)) by ac_rfl, El.add_self, El.add_zero, ← El.mul_assoc, hcm, El.one_mul]
    have tM : M.c (k + 1) = dd x y (k + 1) (i + (k + 1)) := by
      rw [hM, Ps.C_mul, Ps.add_c, lin_mul, lin_mul, dB (k + 1) (Nat.le_refl _), dA (k + 1) (Nat.le_refl _), El.mul_zero, El.mul_zero, El.zero_add, El.zero_add, if_neg (by omega), if_neg (by omega), Nat.add_sub_cancel, tA, tB, hdd]
    -- M is the form
    have hz : M + nw x y i (k + 2) = 0 := by
      refine zero_of x i (k + 1) ?_ (fun a b ha hb e => by have := hx _ _ (by omega) (by omega) e; omega) fun j hj => ?_
      · intro q hq
        by_cases hq1 : q = k + 1
        · subst hq1
          rw [Ps.add_c, tM, nw_top, El.add_self]
        · rw [Ps.add_c, dM q (by omega), nw_dg x y i (k + 2) q (by omega), El.add_zero]
      · have hd : Dg (M + nw x y i (k + 2)) (k + 1) := fun q hq => by
          by_cases hq1 : q = k + 1
          · subst hq1
            rw [Ps.add_c, tM, nw_top, El.add_self]
          · rw [Ps.add_c, dM q (by omega), nw_dg x y i (k + 2) q (by omega), El.add_zero]
        rw [evn_eq hd (hd.mono (show k + 1 ≤ k + 2 by omega)), evn_add, vM j (by omega), hS, evn_add, ev_Cm, wX_zero x i (k + 1) j hj, El.mul_zero, El.add_zero, ← evn_eq dA (dA.mono (show k + 1 ≤ k + 2 by omega)), A1 j hj, El.add_self]
    rw [← Ps.eq_of_add hz]
    exact vM j hj
/-- Horner's road over the differences, from the top down. -/
theorem nw_horner (x y : Nat → El n) (m : Nat) (H : Nat → Ps n) (h0 : H m = 0) (hs : ∀ k, k < m → H k = H (k + 1) * lin (x k) + Ps.C (dd x y k k)) : ∀ d, d ≤ m → nw x y 0 m = nw x y 0 (m - d) + wX x 0 (m - d) * H (m - d)
  | 0, _ => by rw [Nat.sub_zero, h0, Ps.mul_zero, Ps.add_zero]
  | d + 1, h => by
    have ih := nw_horner x y m H h0 hs d (by omega)
    obtain ⟨k, hk⟩ : ∃ k, k = m - (d + 1) := ⟨_, rfl⟩
    rw [show m - d = k + 1 by omega] at ih
    rw [← hk, ih, hs k (by omega), wX_succ]
    show nw x y 0 k + Ps.C (dd x y k (0 + k)) * wX x 0 k + lin (x (0 + k)) * wX x 0 k * H (k + 1) = _
    rw [Nat.zero_add, Ps.mul_add]
    ac_rfl
theorem nw_all (x y : Nat → El n) (m : Nat) (H : Nat → Ps n) (h0 : H m = 0) (hs : ∀ k, k < m → H k = H (k + 1) * lin (x k) + Ps.C (dd x y k k)) : H 0 = nw x y 0 m := by
  have := nw_horner x y m H h0 hs m (Nat.le_refl _)
  rw [Nat.sub_self] at this
  rw [this, show wX x 0 0 = 1 from rfl, Ps.one_mul, show nw x y 0 0 = 0 from rfl, Ps.zero_add]
end
end Go.Fw
