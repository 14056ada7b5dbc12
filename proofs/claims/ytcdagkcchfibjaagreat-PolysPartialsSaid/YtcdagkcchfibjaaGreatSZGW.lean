import Derived.Test.YtcdagkcchfibjaaGreatProg
import Derived.Test.YtcdagkcchfibjaaGreatFwTW
import Derived.Test.YtcdagkcchfibjaaGreatSZhW
import Derived.Test.YtcdagkcchfibjaaGreatGfSW
import Derived.Test.YtcdagkcchfibjaaGreatSZwW
import Derived.Test.YtcdagkcchfibjaaGreatGfEW
import Derived.Test.YtcdagkcchfibjaaGreatGfFW
import Derived.Test.YtcdagkcchfibjaaGreatSZFW
import Derived.Test.YtcdagkcchfibjaaGreatFwWW
set_option linter.all false
set_option linter.unusedVariables false
set_option linter.unusedSimpArgs false
set_option maxRecDepth 100000
set_option maxHeartbeats 1000000
namespace Go.Proofs.YtcdagkcchfibjaaGreat.Fw
open Go Go.Fw Go.Proofs
attribute [local irreducible] stepI
def c_culletlaw04_awake : C := .seq (.ops [⟨0, (some 1), none, .box 28 (.t 0), []⟩, ⟨1, (some 2), none, .mov (.c (.bool false)), []⟩]) (.seq (.ops [⟨0, (some 6), none, .ldn 2 (.t 1), []⟩, ⟨1, (some 7), none, .bsl 32 2 [.int .u16 0] [(0, (1, .c (.int .u16 1))), (1, (1, .c (.int .u16 1)))], []⟩, ⟨2, (some 8), none, .bsl 32 2 [.int .u16 0] [(0, (1, .c (.int .u16 1))), (1, (1, .c (.int .u16 1)))], []⟩, ⟨3, (some 9), none, .call (.c (.func (.func 13) #[] #[])) [.t 6, .c (.bool false), .t 7, .t 8], []⟩, ⟨4, (some 5), none, .mov (.t 9), []⟩, ⟨5, (some 10), none, .ext (.t 5) 0, []⟩, ⟨6, (some 11), none, .ext (.t 5) 1, []⟩, ⟨7, (some 3), none, .mov (.t 10), []⟩, ⟨8, (some 4), none, .mov (.t 11), []⟩]) (.seq (.seq (.ops [⟨0, (some 12), none, .mov (.t 4), []⟩, ⟨1, (some 13), none, .bin .neq (.t 12) (.c (.int .i64 0)), []⟩, ⟨2, (some 14), none, .mov (.t 13), []⟩, ⟨3, (some 15), (some (14, false)), .mov (.t 3), []⟩, ⟨4, (some 16), (some (14, false)), .bsl 32 3 [.int .u16 0] [(0, (1, .c (.int .u16 1))), (1, (1, .c (.int .u16 0))), (2, (1, .c (.int .u16 1)))], []⟩, ⟨5, (some 17), (some (14, false)), .call (.c (.func (.func 14) #[] #[])) [.t 15, .t 16], []⟩, ⟨6, (some 18), (some (14, false)), .un .not (.t 17), []⟩, ⟨7, (some 19), none, .pick (.t 14) (.c (.bool true)) (.t 18), []⟩]) (.ite (.t 19) (.seq (.ops [⟨0, (some 2), none, .mov (.c (.bool false)), []⟩]) .ret) .skip)) (.seq (.ops [⟨0, (some 21), none, .ldn 2 (.t 1), []⟩, ⟨1, (some 22), none, .bsl 32 1 [.int .u16 0] [(0, (1, .c (.int .u16 32768)))], []⟩, ⟨2, (some 23), none, .bsl 32 1 [.int .u16 0] [(0, (1, .c (.int .u16 2)))], []⟩, ⟨3, (some 24), none, .call (.c (.func (.func 13) #[] #[])) [.t 21, .c (.bool true), .t 22, .t 23], []⟩, ⟨4, (some 20), none, .mov (.t 24), []⟩, ⟨5, (some 25), none, .ext (.t 20) 0, []⟩, ⟨6, (some 26), none, .ext (.t 20) 1, []⟩, ⟨7, (some 3), none, .mov (.t 25), []⟩, ⟨8, (some 4), none, .mov (.t 26), []⟩]) (.seq (.ops [⟨0, (some 27), none, .mov (.t 4), []⟩, ⟨1, (some 28), none, .bin .eql (.t 27) (.c (.int .i64 0)), []⟩, ⟨2, (some 29), none, .mov (.t 28), []⟩, ⟨3, (some 30), (some (29, true)), .mov (.t 3), []⟩, ⟨4, (some 31), (some (29, true)), .bsl 32 1 [.int .u16 0] [(0, (1, .c (.int .u16 45)))], []⟩, ⟨5, (some 32), (some (29, true)), .call (.c (.func (.func 14) #[] #[])) [.t 30, .t 31], []⟩, ⟨6, (some 33), none, .pick (.t 29) (.t 32) (.c (.bool false)), []⟩, ⟨7, (some 34), none, .mov (.t 33), []⟩, ⟨8, (some 35), (some (34, true)), .ldn 2 (.t 1), []⟩, ⟨9, (some 36), (some (34, true)), .bsl 32 3 [.int .u16 0] [(0, (1, .c (.int .u16 1))), (1, (1, .c (.int .u16 2))), (2, (1, .c (.int .u16 3)))], []⟩, ⟨10, (some 37), (some (34, true)), .call (.c (.func (.func 15) #[] #[])) [.t 35, .c (.bool false), .t 36, .c (.int .u16 2)], []⟩, ⟨11, (some 38), (some (34, true)), .bin .eql (.t 37) (.c (.int .u16 9)), []⟩, ⟨12, (some 39), none, .pick (.t 34) (.t 38) (.c (.bool false)), []⟩, ⟨13, (some 2), none, .mov (.t 39), []⟩]) .ret))))
attribute [irreducible] c_culletlaw04_awake
theorem run_culletlaw04_awake {args : List Value} {w : World} {K : Value → World → Prop} (hn : args.length ≤ 40) (h : WP Tryz.prog c_culletlaw04_awake (endQ [.t 2] K) (initT args) w) : CallV Tryz.prog 9 args w K :=
  call_of follows Tryz.func9 (by kernel_rfl) (by kernel_rfl) hn h
def c_culletlaw04_Rings_degree : C := .seq (.ops [⟨0, (some 3), none, .box 28 (.t 0), []⟩, ⟨1, (some 6), none, .mov (.c (.int .i64 0)), []⟩]) (.seq (.seq (.ops [⟨0, (some 7), none, .mov (.t 1), []⟩]) (.ite (.t 7) (.seq (.dops [⟨0, (some 8), none, .fad 1 (.t 3), []⟩, ⟨1, (some 9), none, .ld (.t 8), []⟩, ⟨2, (some 10), none, .mov (.t 2), []⟩, ⟨3, (some 11), none, .call (.c (.func (.func 27) #[] #[])) [.t 10], [1]⟩, ⟨4, (some 12), none, .call (.c (.func (.func 63) #[] #[])) [.t 9, .t 11], []⟩, ⟨5, (some 6), none, .mov (.t 12), []⟩]) .ret) .skip)) (.seq (.dops [⟨0, (some 13), none, .fad 0 (.t 3), []⟩, ⟨1, (some 14), none, .ld (.t 13), []⟩, ⟨2, (some 15), none, .mov (.t 2), []⟩, ⟨3, (some 16), none, .call (.c (.func (.func 29) #[] #[])) [.t 15], [1]⟩, ⟨4, (some 17), none, .call (.c (.func (.func 64) #[] #[])) [.t 14, .t 16], []⟩, ⟨5, (some 6), none, .mov (.t 17), []⟩]) .ret))
attribute [irreducible] c_culletlaw04_Rings_degree
theorem run_culletlaw04_Rings_degree {args : List Value} {w : World} {K : Value → World → Prop} (hn : args.length ≤ 18) (h : WP Tryz.prog c_culletlaw04_Rings_degree (endQ [.t 6] K) (initT args) w) : CallV Tryz.prog 35 args w K :=
  call_of follows Tryz.func35 (by kernel_rfl) (by kernel_rfl) hn h
end Go.Proofs.YtcdagkcchfibjaaGreat.Fw
namespace Go.Proofs.YtcdagkcchfibjaaGreat.Fw
open Go Go.Fw
theorem row6_0 {w : World} {b : Nat} {a0 a1 a2 a3 a4 a5 : Value} (h : Row w b [a0, a1, a2, a3, a4, a5]) (P : Program) (d : Option Nat) (l : List D) (Q : T → World → Prop) (t : T) : XW P (.ld (.c (.pointer (some ⟨b, 0, none⟩)))) d l Q t w = W P Q l (put t d a0) w := h.Xld (o := 0) (by simp) P d l Q t
theorem row6_1 {w : World} {b : Nat} {a0 a1 a2 a3 a4 a5 : Value} (h : Row w b [a0, a1, a2, a3, a4, a5]) (P : Program) (d : Option Nat) (l : List D) (Q : T → World → Prop) (t : T) : XW P (.ld (.c (.pointer (some ⟨b, 1, none⟩)))) d l Q t w = W P Q l (put t d a1) w := h.Xld (o := 1) (by simp) P d l Q t
theorem row6_2 {w : World} {b : Nat} {a0 a1 a2 a3 a4 a5 : Value} (h : Row w b [a0, a1, a2, a3, a4, a5]) (P : Program) (d : Option Nat) (l : List D) (Q : T → World → Prop) (t : T) : XW P (.ld (.c (.pointer (some ⟨b, 2, none⟩)))) d l Q t w = W P Q l (put t d a2) w := h.Xld (o := 2) (by simp) P d l Q t
theorem row6_3 {w : World} {b : Nat} {a0 a1 a2 a3 a4 a5 : Value} (h : Row w b [a0, a1, a2, a3, a4, a5]) (P : Program) (d : Option Nat) (l : List D) (Q : T → World → Prop) (t : T) : XW P (.ld (.c (.pointer (some ⟨b, 3, none⟩)))) d l Q t w = W P Q l (put t d a3) w := h.Xld (o := 3) (by simp) P d l Q t
theorem row6_5 {w : World} {b : Nat} {a0 a1 a2 a3 a4 a5 : Value} (h : Row w b [a0, a1, a2, a3, a4, a5]) (P : Program) (d : Option Nat) (l : List D) (Q : T → World → Prop) (t : T) : XW P (.ld (.c (.pointer (some ⟨b, 5, none⟩)))) d l Q t w = W P Q l (put t d a5) w := h.Xld (o := 5) (by simp) P d l Q t
section
variable {n_ : Nat} {u_ : List Nat} {rs_ : List RN} {es_ : List EN}
theorem row6s_1 {w : World} {b : Nat} {a0 a1 a2 a3 a4 a5 : Value} (h : Row w b [a0, a1, a2, a3, a4, a5]) (P : Program) : Fw.sees P (.ld (.c (.pointer (some ⟨b, 1, none⟩)))) w a1 = True := h.sees (o := 1) (by simp) P
theorem row6s_4 {w : World} {b : Nat} {a0 a1 a2 a3 a4 a5 : Value} (h : Row w b [a0, a1, a2, a3, a4, a5]) (P : Program) : Fw.sees P (.ld (.c (.pointer (some ⟨b, 4, none⟩)))) w a4 = True := h.sees (o := 4) (by simp) P
end
theorem gcd_uniq {n : Nat} [Fw.Fd n] {a b : Ps n} {m m' : List (El n)} (hm : tr m = m) (hm' : tr m' = m') (d1 : Dv (co m) a) (d2 : Dv (co m) b) (d1' : Dv (co m') a) (d2' : Dv (co m') b) (e : ∃ p q, Pol p ∧ Pol q ∧ co m = p * a + q * b) (e' : ∃ p q, Pol p ∧ Pol q ∧ co m' = p * a + q * b) (h1 : m ≠ [] → (co m).c (m.length - 1) = 1) (h1' : m' ≠ [] → (co m').c (m'.length - 1) = 1) : m = m' := by
  obtain ⟨p, q, pp, pq, e⟩ := e
  obtain ⟨p', q', pp', pq', e'⟩ := e'
  have v : Dv (co m) (co m') := by rw [e']; exact (d1.mul pp').add (d2.mul pq')
  have v' : Dv (co m') (co m) := by rw [e]; exact (d1'.mul pp).add (d2'.mul pq)
  obtain ⟨_, ⟨l, rfl⟩, hl⟩ := v
  obtain ⟨_, ⟨l', rfl⟩, hl'⟩ := v'
  by_cases h0 : m = []
  · subst h0
    have h2 : co m' = 0 := by rw [hl, co_nil, Ps.mul_zero]
    exact (tr_inj hm' tr_nil (by rw [h2, co_nil])).symm
  by_cases h0' : m' = []
  · subst h0'
    have h2 : co m = 0 := by rw [hl', co_nil, Ps.mul_zero]
    exact tr_inj hm tr_nil (by rw [h2, co_nil])
  have hp := List.length_pos_iff.2 h0
  have hp' := List.length_pos_iff.2 h0'
  have a1 := len_tr hm
  have a1' := len_tr hm'
  have h1 := h1 h0
  have h1' := h1' h0'
  have z : tln l ≠ 0 := fun e => by
    have h2 : co m' = 0 := by rw [hl, co_zero_of_tln e, Ps.zero_mul]
    rw [h2] at h1'
    exact El.one_ne h1'.symm
  have z' : tln l' ≠ 0 := fun e => by
    have h2 : co m = 0 := by rw [hl', co_zero_of_tln e, Ps.zero_mul]
    rw [h2] at h1
    exact El.one_ne h1.symm
  have b1 := tln_mul hl z (by omega)
  have b2 := tln_mul hl' z' (by omega)
  have hl1 : tln l = 1 := by omega
  have hd := tln_dg l
  rw [hl1] at hd
  have hc : co l = Ps.C ((co l).c 0) := Ps.ext fun k => by
    show _ = if k = 0 then _ else _
    by_cases hk : k = 0
    · subst hk; rw [if_pos rfl]
    · rw [if_neg hk, hd k (by omega)]
  have hll : m'.length = m.length := by omega
  rw [hl, hc, Ps.C_mul, hll, h1, El.mul_one] at h1'
  rw [hc, h1'] at hl
  refine tr_inj hm hm' (Ps.ext fun k => ?_)
  rw [hl, Ps.C_mul, El.one_mul]
def OpQ (w : World) (vs : List Value) (k : Int) : Prop := ∃ (b : Bool) (F G : Value) (LF LG : List (El 16)) (x : El 16) (n : Int), vs = [.int .i64 k, .bool b, F, G, .int .u16 (x.v.toNat : Int), .int .i64 n] ∧ Sl w F LF ∧ Sl w G LG ∧ LF.length ≤ 70368744175616 ∧ LG.length ≤ 70368744175616
theorem OpQ.up {w w' : World} {vs : List Value} {k : Int} (h : OpQ w vs k) (hB : RowKit.Below w.heap.size w w') : OpQ w' vs k := by
  obtain ⟨b, F, G, LF, LG, x, n, e, hF, hG, hl⟩ := h
  exact ⟨b, F, G, LF, LG, x, n, e, hF.up hB, hG.up hB, hl⟩
theorem opq_of {w : World} {vs : List Value} (h : vs.length = 6 ∧ RF 1 (RI .i64) (RF 1 RB (RF 1 (RS (El 16) 2 fun _ _ => True) (RF 1 (RS (El 16) 2 fun _ _ => True) (RF 1 (RC (El 16) fun _ _ => True) (RF 1 (RI .i64) RZ))))) w vs) : ∃ k, OpQ w vs k := by
  obtain ⟨hl, h⟩ := h
  obtain ⟨u0, c0, rfl, y0, h⟩ := RF.split h RI.one
  obtain ⟨u1, c1, rfl, y1, h⟩ := RF.split h RB.one
  obtain ⟨u2, c2, rfl, y2, h⟩ := RF.split h RS.one
  obtain ⟨u3, c3, rfl, y3, h⟩ := RF.split h RS.one
  obtain ⟨u4, c4, rfl, y4, h⟩ := RF.split h RC.one
  obtain ⟨u5, c5, rfl, y5, h⟩ := RF.split h RI.one
  obtain rfl : c5 = [] := List.eq_nil_of_length_eq_zero (by simpa using hl)
  obtain ⟨k, e0, -⟩ := y0
  obtain ⟨b, e1⟩ := y1
  obtain ⟨F, LF, e2, hF, bF, -⟩ := y2
  obtain ⟨G, LG, e3, hG, bG, -⟩ := y3
  obtain ⟨x, e4, -⟩ := y4
  obtain ⟨n, e5, -⟩ := y5
  simp only [List.cons.injEq, and_true] at e0 e1 e2 e3 e4 e5
  subst e0 e1 e2 e3 e4 e5
  exact ⟨k, b, _, _, LF, LG, x, n, rfl, hF, hG, by omega, by omega⟩
end Go.Proofs.YtcdagkcchfibjaaGreat.Fw

namespace Go.Proofs.YtcdagkcchfibjaaGreat.Fw
open Go Go.Fw
theorem culletlaw04_Rings_degree_w_spec (w : World) (rb rw s1 : Value) (L1 : List (El 16)) (hb : Ring_b w rb) (hw : Ring_w w rw) (h1 : Sl w s1 L1) (b1 : L1.length ≤ 70368744175616) :
    CallV Tryz.prog 35 [.agg #[rb, rw], .bool true, s1] w fun v w' => RowKit.Below w.heap.size w w' ∧ v = .int .i64 ((tln (L1.map lo16) : Int) - 1) := by
  refine run_culletlaw04_Rings_degree (by simp) ?_
  simp only [c_culletlaw04_Rings_degree, WS, List.getElem_cons_zero, List.getElem_cons_succ, Option.isNone_some, Option.isNone_none, List.getD_cons_zero, List.getD_cons_succ, I.at, atL, atO, atP, evp, evs, retV, ↓reduceIte, Nat.reduceEqDiff, reduceCtorEq]
  refine X_box fun b w1 hr hlb hB1 => ?_
  have hr : Row w1 b [rb, rw] := hr
  simp only [WS, List.getElem_cons_zero, List.getElem_cons_succ, Option.isNone_some, Option.isNone_none, List.getD_cons_zero, List.getD_cons_succ, I.at, atL, atO, atP, evp, evs, retV, ↓reduceIte, Nat.reduceEqDiff, reduceCtorEq]
  refine WP_dops ?_
  have hd0 := hr.drew
  have B0 : RowKit.Below w.heap.size w w1.drew := hB1.trans ((bel_drew w1).mono hB1.size)
  simp only [ES, List.mem_cons, List.not_mem_nil, implies_true, forall_const, WS, List.getElem_cons_zero, List.getElem_cons_succ, Option.isNone_some, Option.isNone_none, List.getD_cons_zero, List.getD_cons_succ, I.at, atL, atO, atP, evp, evs, retV, ↓reduceIte, Nat.reduceEqDiff, reduceCtorEq, addr_add0, Nat.add_zero, Nat.zero_add, hd0.Eld (show 1 < [rb, rw].length by simp)]
  refine E_call0 ((culletlaw04_twin_spec w1.drew s1 L1 (h1.up B0) b1).mono ?_)
  rintro a1 v1 ⟨o1, c1⟩
  have B1 : RowKit.Below w.heap.size w v1 := B0.trans (c1.mono B0.size)
  have r1 := hd0.up c1
  have z1 : Fw.sees Tryz.prog (.ld (.c (.pointer (some ⟨b, 1, none⟩)))) v1 rw = True := r1.sees (o := 1) (by simp) Tryz.prog
  simp only [ES, List.mem_cons, List.not_mem_nil, implies_true, forall_const, WS, List.getElem_cons_zero, List.getElem_cons_succ, Option.isNone_some, Option.isNone_none, List.getD_cons_zero, List.getD_cons_succ, I.at, atL, atO, atP, evp, evs, retV, ↓reduceIte, Nat.reduceEqDiff, reduceCtorEq, z1]
  refine E_call0 ((polys_Ring_w_Degree_spec v1 rw a1 L1 (hw.up B1) o1.sl b1).mono ?_)
  rintro v w9 ⟨rfl, rfl⟩
  simp only [ES, List.mem_cons, List.not_mem_nil, implies_true, forall_const, WS, List.getElem_cons_zero, List.getElem_cons_succ, Option.isNone_some, Option.isNone_none, List.getD_cons_zero, List.getD_cons_succ, I.at, atL, atO, atP, evp, evs, retV, ↓reduceIte, Nat.reduceEqDiff, reduceCtorEq]
  rw [lo16_map]
  exact ⟨B1, rfl⟩
theorem culletlaw04_Rings_degree_b_spec (w : World) (rb rw s1 : Value) (L1 : List (El 16)) (hb : Ring_b w rb) (hw : Ring_w w rw) (h1 : Sl w s1 L1) (b1 : L1.length ≤ 70368744175616) :
    CallV Tryz.prog 35 [.agg #[rb, rw], .bool false, s1] w fun v w' => RowKit.Below w.heap.size w w' ∧ v = .int .i64 ((tln (L1.map lo8) : Int) - 1) := by
  refine run_culletlaw04_Rings_degree (by simp) ?_
  simp only [c_culletlaw04_Rings_degree, WS, List.getElem_cons_zero, List.getElem_cons_succ, Option.isNone_some, Option.isNone_none, List.getD_cons_zero, List.getD_cons_succ, I.at, atL, atO, atP, evp, evs, retV, ↓reduceIte, Nat.reduceEqDiff, reduceCtorEq]
  refine X_box fun b w1 hr hlb hB1 => ?_
  have hr : Row w1 b [rb, rw] := hr
  simp only [WS, List.getElem_cons_zero, List.getElem_cons_succ, Option.isNone_some, Option.isNone_none, List.getD_cons_zero, List.getD_cons_succ, I.at, atL, atO, atP, evp, evs, retV, ↓reduceIte, Nat.reduceEqDiff, reduceCtorEq]
  refine WP_dops ?_
  have hd0 := hr.drew
  have B0 : RowKit.Below w.heap.size w w1.drew := hB1.trans ((bel_drew w1).mono hB1.size)
  simp only [ES, List.mem_cons, List.not_mem_nil, implies_true, forall_const, WS, List.getElem_cons_zero, List.getElem_cons_succ, Option.isNone_some, Option.isNone_none, List.getD_cons_zero, List.getD_cons_succ, I.at, atL, atO, atP, evp, evs, retV, ↓reduceIte, Nat.reduceEqDiff, reduceCtorEq, addr_add0, Nat.add_zero, Nat.zero_add, hd0.Eld (show 0 < [rb, rw].length by simp)]
  refine E_call0 ((culletlaw04_low_spec w1.drew s1 L1 (h1.up B0) b1).mono ?_)
  rintro a1 v1 ⟨o1, c1⟩
  have B1 : RowKit.Below w.heap.size w v1 := B0.trans (c1.mono B0.size)
  have r1 := hd0.up c1
  have z1 : Fw.sees Tryz.prog (.ld (.c (.pointer (some ⟨b, 0, none⟩)))) v1 rb = True := r1.sees (o := 0) (by simp) Tryz.prog
  simp only [ES, List.mem_cons, List.not_mem_nil, implies_true, forall_const, WS, List.getElem_cons_zero, List.getElem_cons_succ, Option.isNone_some, Option.isNone_none, List.getD_cons_zero, List.getD_cons_succ, I.at, atL, atO, atP, evp, evs, retV, ↓reduceIte, Nat.reduceEqDiff, reduceCtorEq, z1]
  refine E_call0 ((polys_Ring_b_Degree_spec v1 rb a1 (L1.map lo8) (hb.up B1) o1.sl (by rw [List.length_map]; exact b1)).mono ?_)
  rintro v w9 ⟨rfl, rfl⟩
  simp only [ES, List.mem_cons, List.not_mem_nil, implies_true, forall_const, WS, List.getElem_cons_zero, List.getElem_cons_succ, Option.isNone_some, Option.isNone_none, List.getD_cons_zero, List.getD_cons_succ, I.at, atL, atO, atP, evp, evs, retV, ↓reduceIte, Nat.reduceEqDiff, reduceCtorEq]
  exact B1
end Go.Proofs.YtcdagkcchfibjaaGreat.Fw

namespace Go.Proofs.YtcdagkcchfibjaaGreat.Fw
open Go Go.Fw
theorem aw1 (m : List (El 8)) (ht : tr m = m) (hc : co m = co ([⟨1⟩, ⟨1⟩] : List (El 8)) * co [⟨1⟩, ⟨1⟩]) : m.map em8 = [⟨1⟩, ⟨0⟩, ⟨1⟩] := by
  have : m = [⟨1⟩, ⟨0⟩, ⟨1⟩] := tr_inj ht (by decide +kernel) (hc.trans (ps_eq 3 ((co_dg _).mul (co_dg _)) (co_dg _) (by decide +kernel)))
  rw [this]; rfl
theorem aw2 (m : List (El 16)) (ht : tr m = m) (hc : co m = co ([⟨32768⟩] : List (El 16)) * co [⟨2⟩]) : m.map em16 = [⟨45⟩] := by
  have : m = [⟨45⟩] := tr_inj ht (by decide +kernel) (hc.trans (ps_eq 1 ((co_dg _).mul (co_dg _)) (co_dg _) (by decide +kernel)))
  rw [this]; rfl
theorem aw3 : ((em8 (evl ([⟨1⟩, ⟨2⟩, ⟨3⟩] : List (El 8)) ⟨2⟩)).v.toNat : Int) = 9 := by decide +kernel
theorem culletlaw04_awake_spec (w : World) (rb rw : Value) (hb : Ring_b w rb) (hw : Ring_w w rw) : CallV Tryz.prog 9 [.agg #[rb, rw]] w fun v w' => v = .bool true ∧ RowKit.Below w.heap.size w w' := by
  refine run_culletlaw04_awake (by simp) ?_
  simp only [c_culletlaw04_awake, WS, List.getElem_cons_zero, List.getElem_cons_succ, Option.isNone_some, Option.isNone_none, List.getD_cons_zero, List.getD_cons_succ, I.at, atL, atO, atP, evp, evs, retV, ↓reduceIte, Nat.reduceEqDiff, reduceCtorEq]
  refine X_box fun b3 w1 hr hb3 hB => ?_
  have hr : Row w1 b3 [rb, rw] := hr
  clear hb3
  have hb := hb.up hB
  have hw := hw.up hB
  have B1 : RowKit.Below w.heap.size w w1 := hB
  clear hB
  simp only [WS, List.getElem_cons_zero, List.getElem_cons_succ, Option.isNone_some, Option.isNone_none, List.getD_cons_zero, List.getD_cons_succ, I.at, atL, atO, atP, evp, evs, retV, ↓reduceIte, Nat.reduceEqDiff, reduceCtorEq, hr.Xldn (n := 2) rfl]
  refine X_bsl (zs := [(⟨1⟩ : El 16), (⟨1⟩ : El 16)]) (by rfl) (by rfl) fun c1 w2 c1o hB => ?_
  have hb := hb.up hB
  have hw := hw.up hB
  have hr := hr.up hB
  have B2 : RowKit.Below w.heap.size w w2 := B1.trans (hB.mono B1.size)
  clear hB B1
  have hc1 := c1o.sl
  simp only [WS, List.getElem_cons_zero, List.getElem_cons_succ, Option.isNone_some, Option.isNone_none, List.getD_cons_zero, List.getD_cons_succ, I.at, atL, atO, atP, evp, evs, retV, ↓reduceIte, Nat.reduceEqDiff, reduceCtorEq]
  refine X_bsl (zs := [(⟨1⟩ : El 16), (⟨1⟩ : El 16)]) (by rfl) (by rfl) fun c2 w3 c2o hB => ?_
  have hb := hb.up hB
  have hw := hw.up hB
  have hr := hr.up hB
  have hc1 := hc1.up hB
  have B3 : RowKit.Below w.heap.size w w3 := B2.trans (hB.mono B2.size)
  clear hB B2
  have hc2 := c2o.sl
  simp only [WS, List.getElem_cons_zero, List.getElem_cons_succ, Option.isNone_some, Option.isNone_none, List.getD_cons_zero, List.getD_cons_succ, I.at, atL, atO, atP, evp, evs, retV, ↓reduceIte, Nat.reduceEqDiff, reduceCtorEq]
  refine X_call0 ((culletlaw04_Rings_mul_b_spec w3 rb rw c1 c2 _ _ hb hw hc1 hc2 (by simp) (by simp)).mono ?_)
  rintro _ w4 ⟨hB, ⟨-, -, s, m, rfl, om, ht, hc, -⟩ | ⟨hn, -⟩⟩
  rotate_left
  · exact absurd ⟨by simp, by simp⟩ hn
  rw [aw1 m ht hc] at om
  have om := om.sl
  have hb := hb.up hB
  have hw := hw.up hB
  have hr := hr.up hB
  have hc1 := hc1.up hB
  have hc2 := hc2.up hB
  have B4 : RowKit.Below w.heap.size w w4 := B3.trans (hB.mono B3.size)
  clear hB B3
  simp only [WS, List.getElem_cons_zero, List.getElem_cons_succ, Option.isNone_some, Option.isNone_none, List.getD_cons_zero, List.getD_cons_succ, I.at, atL, atO, atP, evp, evs, retV, ↓reduceIte, Nat.reduceEqDiff, reduceCtorEq, show decide ((0 : Int) = 0) = true from rfl]
  refine X_bsl (zs := [(⟨1⟩ : El 16), (⟨0⟩ : El 16), (⟨1⟩ : El 16)]) (by rfl) (by rfl) fun c3 w5 c3o hB => ?_
  have hb := hb.up hB
  have hw := hw.up hB
  have hr := hr.up hB
  have hc1 := hc1.up hB
  have hc2 := hc2.up hB
  have om := om.up hB
  have B5 : RowKit.Below w.heap.size w w5 := B4.trans (hB.mono B4.size)
  clear hB B4
  have hc3 := c3o.sl
  simp only [WS, List.getElem_cons_zero, List.getElem_cons_succ, Option.isNone_some, Option.isNone_none, List.getD_cons_zero, List.getD_cons_succ, I.at, atL, atO, atP, evp, evs, retV, ↓reduceIte, Nat.reduceEqDiff, reduceCtorEq]
  refine X_call0 ((culletlaw04_same_spec w5 s c3 _ _ om hc3 (by simp) (by simp)).mono ?_)
  rintro _ w6 ⟨rfl, hk⟩
  have hB := hk.1
  clear hk
  have hb := hb.up hB
  have hw := hw.up hB
  have hr := hr.up hB
  have B6 : RowKit.Below w.heap.size w w6 := B5.trans (hB.mono B5.size)
  clear hB B5
  simp only [WS, List.getElem_cons_zero, List.getElem_cons_succ, Option.isNone_some, Option.isNone_none, List.getD_cons_zero, List.getD_cons_succ, I.at, atL, atO, atP, evp, evs, retV, ↓reduceIte, Nat.reduceEqDiff, reduceCtorEq, hr.Xldn (n := 2) rfl]
  refine X_bsl (zs := [(⟨32768⟩ : El 16)]) (by rfl) (by rfl) fun c4 w7 c4o hB => ?_
  have hb := hb.up hB
  have hw := hw.up hB
  have hr := hr.up hB
  have B7 : RowKit.Below w.heap.size w w7 := B6.trans (hB.mono B6.size)
  clear hB B6
  have hc4 := c4o.sl
  simp only [WS, List.getElem_cons_zero, List.getElem_cons_succ, Option.isNone_some, Option.isNone_none, List.getD_cons_zero, List.getD_cons_succ, I.at, atL, atO, atP, evp, evs, retV, ↓reduceIte, Nat.reduceEqDiff, reduceCtorEq]
  refine X_bsl (zs := [(⟨2⟩ : El 16)]) (by rfl) (by rfl) fun c5 w8 c5o hB => ?_
  have hb := hb.up hB
  have hw := hw.up hB
  have hr := hr.up hB
  have hc4 := hc4.up hB
  have B8 : RowKit.Below w.heap.size w w8 := B7.trans (hB.mono B7.size)
  clear hB B7
  have hc5 := c5o.sl
  simp only [WS, List.getElem_cons_zero, List.getElem_cons_succ, Option.isNone_some, Option.isNone_none, List.getD_cons_zero, List.getD_cons_succ, I.at, atL, atO, atP, evp, evs, retV, ↓reduceIte, Nat.reduceEqDiff, reduceCtorEq]
  refine X_call0 ((culletlaw04_Rings_mul_w_spec w8 rb rw c4 c5 _ _ hb hw hc4 hc5 (by simp) (by simp)).mono ?_)
  rintro _ w9 ⟨hB, ⟨-, -, s2, m2, rfl, om2, ht2, hc2, -⟩ | ⟨hn, -⟩⟩
  rotate_left
  · exact absurd ⟨by simp, by simp⟩ hn
  rw [aw2 m2 ht2 hc2] at om2
  have om2 := om2.sl
  have hb := hb.up hB
  have hw := hw.up hB
  have hr := hr.up hB
  have B9 : RowKit.Below w.heap.size w w9 := B8.trans (hB.mono B8.size)
  clear hB B8
  simp only [WS, List.getElem_cons_zero, List.getElem_cons_succ, Option.isNone_some, Option.isNone_none, List.getD_cons_zero, List.getD_cons_succ, I.at, atL, atO, atP, evp, evs, retV, ↓reduceIte, Nat.reduceEqDiff, reduceCtorEq, show decide ((0 : Int) = 0) = true from rfl]
  refine X_bsl (zs := [(⟨45⟩ : El 16)]) (by rfl) (by rfl) fun c6 w10 c6o hB => ?_
  have hb := hb.up hB
  have hw := hw.up hB
  have hr := hr.up hB
  have om2 := om2.up hB
  have B10 : RowKit.Below w.heap.size w w10 := B9.trans (hB.mono B9.size)
  clear hB B9
  have hc6 := c6o.sl
  simp only [WS, List.getElem_cons_zero, List.getElem_cons_succ, Option.isNone_some, Option.isNone_none, List.getD_cons_zero, List.getD_cons_succ, I.at, atL, atO, atP, evp, evs, retV, ↓reduceIte, Nat.reduceEqDiff, reduceCtorEq]
  refine X_call0 ((culletlaw04_same_spec w10 s2 c6 _ _ om2 hc6 (by simp) (by simp)).mono ?_)
  rintro _ w11 ⟨rfl, hk⟩
  have hB := hk.1
  clear hk
  have hb := hb.up hB
  have hw := hw.up hB
  have hr := hr.up hB
  have B11 : RowKit.Below w.heap.size w w11 := B10.trans (hB.mono B10.size)
  clear hB B10
  simp only [WS, List.getElem_cons_zero, List.getElem_cons_succ, Option.isNone_some, Option.isNone_none, List.getD_cons_zero, List.getD_cons_succ, I.at, atL, atO, atP, evp, evs, retV, ↓reduceIte, Nat.reduceEqDiff, reduceCtorEq, hr.Xldn (n := 2) rfl]
  refine X_bsl (zs := [(⟨1⟩ : El 16), (⟨2⟩ : El 16), (⟨3⟩ : El 16)]) (by rfl) (by rfl) fun c7 w12 c7o hB => ?_
  have hb := hb.up hB
  have hw := hw.up hB
  have hr := hr.up hB
  have B12 : RowKit.Below w.heap.size w w12 := B11.trans (hB.mono B11.size)
  clear hB B11
  have hc7 := c7o.sl
  simp only [WS, List.getElem_cons_zero, List.getElem_cons_succ, Option.isNone_some, Option.isNone_none, List.getD_cons_zero, List.getD_cons_succ, I.at, atL, atO, atP, evp, evs, retV, ↓reduceIte, Nat.reduceEqDiff, reduceCtorEq]
  refine X_call0 ((culletlaw04_Rings_eval_b_spec w12 rb rw c7 [⟨1⟩, ⟨2⟩, ⟨3⟩] ⟨2⟩ hb hw hc7 (by simp)).mono ?_)
  rintro _ w13 ⟨hB, rfl⟩
  have hb := hb.up hB
  have hw := hw.up hB
  have hr := hr.up hB
  have hc7 := hc7.up hB
  have B13 : RowKit.Below w.heap.size w w13 := B12.trans (hB.mono B12.size)
  clear hB B12
  rw [show ([⟨1⟩, ⟨2⟩, ⟨3⟩] : List (El 16)).map lo8 = [⟨1⟩, ⟨2⟩, ⟨3⟩] from rfl, aw3]
  simp only [WS, List.getElem_cons_zero, List.getElem_cons_succ, Option.isNone_some, Option.isNone_none, List.getD_cons_zero, List.getD_cons_succ, I.at, atL, atO, atP, evp, evs, retV, ↓reduceIte, Nat.reduceEqDiff, reduceCtorEq, show decide ((9 : Int) = 9) = true from rfl]
  exact B13
end Go.Proofs.YtcdagkcchfibjaaGreat.Fw
