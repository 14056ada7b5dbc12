import Derived.Test.YtcdagkcchfibjaaGreatProg
import Derived.Test.YtcdagkcchfibjaaGreatFwTW
import Derived.Test.YtcdagkcchfibjaaGreatSZHW
set_option linter.all false
set_option linter.unusedVariables false
set_option linter.unusedSimpArgs false
set_option maxRecDepth 100000
set_option maxHeartbeats 1000000
namespace Go.Proofs.YtcdagkcchfibjaaGreat.Fw
open Go Go.Fw Go.Proofs
attribute [local irreducible] stepI
def c_culletlaw04_partial : C := .seq (.ops [⟨0, (some 4), none, .box 28 (.t 0), []⟩, ⟨1, (some 5), none, .box 34 (.t 1), []⟩, ⟨2, (some 8), none, .mov (.c (.bool false)), []⟩]) (.seq (.ops [⟨0, (some 18), none, .ldn 2 (.t 4), []⟩, ⟨1, (some 19), none, .fad 1 (.t 5), []⟩, ⟨2, (some 20), none, .ld (.t 19), []⟩, ⟨3, (some 21), none, .mov (.t 2), []⟩, ⟨4, (some 22), none, .mov (.t 3), []⟩, ⟨5, (some 23), none, .fad 5 (.t 5), []⟩, ⟨6, (some 24), none, .ld (.t 23), []⟩, ⟨7, (some 25), none, .call (.c (.func (.func 52) #[] #[])) [.t 18, .t 20, .t 21, .t 22, .t 24], []⟩, ⟨8, (some 17), none, .mov (.t 25), []⟩, ⟨9, (some 26), none, .ext (.t 17) 0, []⟩, ⟨10, (some 27), none, .ext (.t 17) 1, []⟩, ⟨11, (some 28), none, .ext (.t 17) 2, []⟩, ⟨12, (some 29), none, .ext (.t 17) 3, []⟩, ⟨13, (some 9), none, .mov (.t 26), []⟩, ⟨14, (some 10), none, .mov (.t 27), []⟩, ⟨15, (some 11), none, .mov (.t 28), []⟩, ⟨16, (some 12), none, .mov (.t 29), []⟩]) (.seq (.ops [⟨0, (some 31), none, .fad 1 (.t 5), []⟩, ⟨1, (some 32), none, .ld (.t 31), []⟩, ⟨2, (some 33), none, .mov (.t 2), []⟩, ⟨3, (some 34), none, .mov (.t 3), []⟩, ⟨4, (some 35), none, .fad 5 (.t 5), []⟩, ⟨5, (some 36), none, .ld (.t 35), []⟩, ⟨6, (some 37), none, .call (.c (.func (.func 53) #[] #[])) [.t 32, .t 33, .t 34, .t 36], []⟩, ⟨7, (some 30), none, .mov (.t 37), []⟩, ⟨8, (some 38), none, .ext (.t 30) 0, []⟩, ⟨9, (some 39), none, .ext (.t 30) 1, []⟩, ⟨10, (some 40), none, .ext (.t 30) 2, []⟩, ⟨11, (some 41), none, .ext (.t 30) 3, []⟩, ⟨12, (some 13), none, .mov (.t 38), []⟩, ⟨13, (some 14), none, .mov (.t 39), []⟩, ⟨14, (some 15), none, .mov (.t 40), []⟩, ⟨15, (some 16), none, .mov (.t 41), []⟩]) (.seq (.ops [⟨0, (some 42), none, .mov (.t 12), []⟩, ⟨1, (some 43), none, .mov (.t 16), []⟩, ⟨2, (some 44), none, .bin .eql (.t 42) (.t 43), []⟩, ⟨3, (some 45), none, .mov (.t 44), []⟩, ⟨4, (some 46), (some (45, true)), .mov (.t 9), []⟩, ⟨5, (some 47), (some (45, true)), .mov (.t 13), []⟩, ⟨6, (some 48), (some (45, true)), .call (.c (.func (.func 14) #[] #[])) [.t 46, .t 47], []⟩, ⟨7, (some 49), none, .pick (.t 45) (.t 48) (.c (.bool false)), []⟩, ⟨8, (some 50), none, .mov (.t 49), []⟩, ⟨9, (some 51), (some (50, true)), .mov (.t 10), []⟩, ⟨10, (some 52), (some (50, true)), .mov (.t 14), []⟩, ⟨11, (some 53), (some (50, true)), .call (.c (.func (.func 14) #[] #[])) [.t 51, .t 52], []⟩, ⟨12, (some 54), none, .pick (.t 50) (.t 53) (.c (.bool false)), []⟩, ⟨13, (some 55), none, .mov (.t 54), []⟩, ⟨14, (some 56), (some (55, true)), .mov (.t 11), []⟩, ⟨15, (some 57), (some (55, true)), .mov (.t 15), []⟩, ⟨16, (some 58), (some (55, true)), .call (.c (.func (.func 14) #[] #[])) [.t 56, .t 57], []⟩, ⟨17, (some 59), none, .pick (.t 55) (.t 58) (.c (.bool false)), []⟩, ⟨18, (some 8), none, .mov (.t 59), []⟩]) .ret)))
attribute [irreducible] c_culletlaw04_partial
theorem run_culletlaw04_partial {args : List Value} {w : World} {K : Value → World → Prop} (hn : args.length ≤ 60) (h : WP Tryz.prog c_culletlaw04_partial (endQ [.t 8] K) (initT args) w) : CallV Tryz.prog 20 args w K :=
  call_of follows Tryz.func20 (by kernel_rfl) (by kernel_rfl) hn h
end Go.Proofs.YtcdagkcchfibjaaGreat.Fw
namespace Go.Proofs.YtcdagkcchfibjaaGreat.Fw
open Go Go.Fw
section
variable {n_ : Nat} {u_ : List Nat} {rs_ : List RN} {es_ : List EN}
theorem row6e_1 {w : World} {b : Nat} {a0 a1 a2 a3 a4 a5 : Value} (h : Row w b [a0, a1, a2, a3, a4, a5]) (P : Program) (d : Option Nat) (l : List D) (Q : T → World → Prop) (t : T) : XE P n_ (.ld (.c (.pointer (some ⟨b, 1, none⟩)))) u_ d l Q rs_ es_ t w = (okE P (.ld (.c (.pointer (some ⟨b, 1, none⟩)))) a1 u_ es_ ∧ WE P Q l ((n_, .ld (.c (.pointer (some ⟨b, 1, none⟩))), a1) :: rs_) es_ (put t d a1) w) := by
  have := h.Eld (o := 1) (by simp) P d l Q t (n_ := n_) (u_ := u_) (rs_ := rs_) (es_ := es_)
  exact this
theorem row6e_4 {w : World} {b : Nat} {a0 a1 a2 a3 a4 a5 : Value} (h : Row w b [a0, a1, a2, a3, a4, a5]) (P : Program) (d : Option Nat) (l : List D) (Q : T → World → Prop) (t : T) : XE P n_ (.ld (.c (.pointer (some ⟨b, 4, none⟩)))) u_ d l Q rs_ es_ t w = (okE P (.ld (.c (.pointer (some ⟨b, 4, none⟩)))) a4 u_ es_ ∧ WE P Q l ((n_, .ld (.c (.pointer (some ⟨b, 4, none⟩))), a4) :: rs_) es_ (put t d a4) w) := by
  have := h.Eld (o := 4) (by simp) P d l Q t (n_ := n_) (u_ := u_) (rs_ := rs_) (es_ := es_)
  exact this
end
end Go.Proofs.YtcdagkcchfibjaaGreat.Fw

namespace Go.Proofs.YtcdagkcchfibjaaGreat.Fw
open Go Go.Fw
theorem culletlaw04_simple3_w_spec (w : World) (rb rw F G s1 s2 : Value) (L1 L2 : List (El 16)) (x : El 16) (n : Int) (hb : Ring_b w rb) (hw : Ring_w w rw) (h1 : Sl w s1 (L1.map em16)) (h2 : Sl w s2 (L2.map em16)) (b1 : L1.length ≤ 70368744175616) (b2 : L2.length ≤ 70368744175616) :
    CallV Tryz.prog 17 [.agg #[rb, rw], .agg #[.int .i64 3, .bool true, F, G, .int .u16 (x.v.toNat : Int), .int .i64 n], s1, s2] w fun v w' => v = .bool true ∧ RowKit.Below w.heap.size w w' := by
  have m1 : (L1.map em16).length = L1.length := List.length_map ..
  have dt : ∀ e : Int, decide (e = e) = true := fun e => decide_eq_true rfl
  refine run_culletlaw04_simple (by simp) ?_
  simp only [c_culletlaw04_simple, WS, List.getElem_cons_zero, List.getElem_cons_succ, Option.isNone_some, Option.isNone_none, List.getD_cons_zero, List.getD_cons_succ, I.at, atL, atO, atP, evp, evs, retV, ↓reduceIte, Nat.reduceEqDiff, reduceCtorEq]
  refine X_box fun b w1 hr hlb hB => ?_
  have hr : Row w1 b [rb, rw] := hr
  have B := hB
  have hb := hb.up hB
  have hw := hw.up hB
  have h1 := h1.up hB
  have h2 := h2.up hB
  clear hB hlb
  simp (maxSteps := 1000000) (disch := omega) only [WS, List.getElem_cons_zero, List.getElem_cons_succ, Option.isNone_some, Option.isNone_none, List.getD_cons_zero, List.getD_cons_succ, I.at, atL, atO, atP, evp, evs, retV, ↓reduceIte, Nat.reduceEqDiff, reduceCtorEq, AS]
  refine X_box fun bo w2 hro hlb hB => ?_
  have hro : Row w2 bo [.int .i64 3, .bool true, F, G, .int .u16 (x.v.toNat : Int), .int .i64 n] := hro
  have hb := hb.up hB
  have hw := hw.up hB
  have h1 := h1.up hB
  have h2 := h2.up hB
  have hr := hr.up hB
  have B := B.trans (hB.mono B.size)
  clear hB
  clear hlb
  simp (maxSteps := 1000000) (disch := omega) only [WS, List.getElem_cons_zero, List.getElem_cons_succ, Option.isNone_some, Option.isNone_none, List.getD_cons_zero, List.getD_cons_succ, I.at, atL, atO, atP, evp, evs, retV, ↓reduceIte, Nat.reduceEqDiff, reduceCtorEq, AS, row6_0 hro, show decide ((3 : Int) = 1) = false from rfl, show decide ((3 : Int) = 2) = false from rfl, show decide ((3 : Int) = 3) = true from rfl]
  refine WP_dops ?_
  have hrd := hr.drew
  have hrod := hro.drew
  have z0 := hrd.seesN (n := 2) rfl Tryz.prog
  have z1 := row6s_1 hrod Tryz.prog
  have z4 := row6s_4 hrod Tryz.prog
  simp (maxSteps := 1000000) (disch := omega) only [ES, List.mem_cons, List.not_mem_nil, implies_true, forall_const, WS, List.getElem_cons_zero, List.getElem_cons_succ, Option.isNone_some, Option.isNone_none, List.getD_cons_zero, List.getD_cons_succ, I.at, atL, atO, atP, evp, evs, retV, ↓reduceIte, Nat.reduceEqDiff, reduceCtorEq, AS, row6e_1 hrod, row6e_4 hrod, hrd.Eldn (n := 2) rfl]
  refine E_call0 ((culletlaw04_one_w_spec w2.drew x).mono ?_)
  rintro _ w3 ⟨rfl, rfl⟩
  simp (maxSteps := 1000000) (disch := omega) only [ES, List.mem_cons, List.not_mem_nil, implies_true, forall_const, WS, List.getElem_cons_zero, List.getElem_cons_succ, Option.isNone_some, Option.isNone_none, List.getD_cons_zero, List.getD_cons_succ, I.at, atL, atO, atP, evp, evs, retV, ↓reduceIte, Nat.reduceEqDiff, reduceCtorEq, AS, z0, z1, z4]
  refine E_call0 ((culletlaw04_Rings_eval_w_spec w2.drew rb rw s1 _ (lo16 x) (hb.up (bel_drew w2)) (hw.up (bel_drew w2)) h1.drew (by omega)).mono ?_)
  rintro _ w4 ⟨hB, rfl⟩
  have hB := (bel_drew w2).trans hB
  have hro4 := hro.up hB
  have h1 := h1.up hB
  have B := B.trans (hB.mono B.size)
  clear hB
  have y1 := row6s_1 hro4 Tryz.prog
  have y4 := row6s_4 hro4 Tryz.prog
  simp (maxSteps := 1000000) (disch := omega) only [ES, List.mem_cons, List.not_mem_nil, implies_true, forall_const, WS, List.getElem_cons_zero, List.getElem_cons_succ, Option.isNone_some, Option.isNone_none, List.getD_cons_zero, List.getD_cons_succ, I.at, atL, atO, atP, evp, evs, retV, ↓reduceIte, Nat.reduceEqDiff, reduceCtorEq, AS, row6e_1 hro4, row6e_4 hro4, z1, z4, y1, y4]
  refine E_call0 ((culletlaw04_one_w_spec w4 x).mono ?_)
  rintro _ w5 ⟨rfl, rfl⟩
  simp (maxSteps := 1000000) (disch := omega) only [ES, List.mem_cons, List.not_mem_nil, implies_true, forall_const, WS, List.getElem_cons_zero, List.getElem_cons_succ, Option.isNone_some, Option.isNone_none, List.getD_cons_zero, List.getD_cons_succ, I.at, atL, atO, atP, evp, evs, retV, ↓reduceIte, Nat.reduceEqDiff, reduceCtorEq, AS, z1, z4, y1, y4]
  refine E_call0 ((culletref04_Eval_w_spec w5 s1 L1 (lo16 x) h1 (by omega)).mono ?_)
  rintro _ w6 ⟨rfl, rfl⟩
  rw [lo16_map_em16]
  simp (maxSteps := 1000000) (disch := omega) only [ES, List.mem_cons, List.not_mem_nil, implies_true, forall_const, WS, List.getElem_cons_zero, List.getElem_cons_succ, Option.isNone_some, Option.isNone_none, List.getD_cons_zero, List.getD_cons_succ, I.at, atL, atO, atP, evp, evs, retV, ↓reduceIte, Nat.reduceEqDiff, reduceCtorEq, AS, dt]
  exact B
theorem culletlaw04_partial10_w_spec (w : World) (rb rw F G s1 s2 : Value) (L1 L2 : List (El 16)) (x : El 16) (n : Int) (hb : Ring_b w rb) (hw : Ring_w w rw) (h1 : Sl w s1 (L1.map em16)) (h2 : Sl w s2 (L2.map em16)) (b1 : L1.length ≤ 70368744175616) (b2 : L2.length ≤ 70368744175616) :
    CallV Tryz.prog 20 [.agg #[rb, rw], .agg #[.int .i64 10, .bool true, F, G, .int .u16 (x.v.toNat : Int), .int .i64 n], s1, s2] w fun v w' => v = .bool true ∧ RowKit.Below w.heap.size w w' := by
  have m1 : (L1.map em16).length = L1.length := List.length_map ..
  have m2 : (L2.map em16).length = L2.length := List.length_map ..
  have l1' := tln_le L1
  have l2' := tln_le L2
  refine run_culletlaw04_partial (by simp) ?_
  simp only [c_culletlaw04_partial, WS, List.getElem_cons_zero, List.getElem_cons_succ, Option.isNone_some, Option.isNone_none, List.getD_cons_zero, List.getD_cons_succ, I.at, atL, atO, atP, evp, evs, retV, ↓reduceIte, Nat.reduceEqDiff, reduceCtorEq]
  refine X_box fun b w1 hr hlb hB => ?_
  have hr : Row w1 b [rb, rw] := hr
  have B := hB
  have hb := hb.up hB
  have hw := hw.up hB
  have h1 := h1.up hB
  have h2 := h2.up hB
  clear hB hlb
  simp (maxSteps := 1000000) (disch := omega) only [WS, List.getElem_cons_zero, List.getElem_cons_succ, Option.isNone_some, Option.isNone_none, List.getD_cons_zero, List.getD_cons_succ, I.at, atL, atO, atP, evp, evs, retV, ↓reduceIte, Nat.reduceEqDiff, reduceCtorEq, AS]
  refine X_box fun bo w2 hro hlb hB => ?_
  have hro : Row w2 bo [.int .i64 10, .bool true, F, G, .int .u16 (x.v.toNat : Int), .int .i64 n] := hro
  have hb := hb.up hB
  have hw := hw.up hB
  have h1 := h1.up hB
  have h2 := h2.up hB
  have hr := hr.up hB
  have B := B.trans (hB.mono B.size)
  clear hB
  clear hlb
  simp (maxSteps := 1000000) (disch := omega) only [WS, List.getElem_cons_zero, List.getElem_cons_succ, Option.isNone_some, Option.isNone_none, List.getD_cons_zero, List.getD_cons_succ, I.at, atL, atO, atP, evp, evs, retV, ↓reduceIte, Nat.reduceEqDiff, reduceCtorEq, AS, hr.Xldn (n := 2) rfl, row6_1 hro, row6_5 hro]
  refine X_call0 ((culletlaw04_Rings_partial_w_spec w2 rb rw s1 s2 _ _ n hb hw h1 h2 (by omega) (by omega)).mono ?_)
  rw [lo16_map_em16, lo16_map_em16]
  rintro _ w3 ⟨hB, ⟨q1, q2, h0, sm, su, sv, m, u, v', rfl, om, ou, ov, hE⟩ | ⟨q1, q2, h0, sm, su, sv, rfl, om, ou, ov⟩ | ⟨hn, sm, su, sv, rfl, om, ou, ov⟩⟩
  · have om := om.sl
    have ou := ou.sl
    have ov := ov.sl
    have h1 := h1.up hB
    have h2 := h2.up hB
    have hro := hro.up hB
    have B := B.trans (hB.mono B.size)
    clear hB
    simp (maxSteps := 1000000) (disch := omega) only [WS, List.getElem_cons_zero, List.getElem_cons_succ, Option.isNone_some, Option.isNone_none, List.getD_cons_zero, List.getD_cons_succ, I.at, atL, atO, atP, evp, evs, retV, ↓reduceIte, Nat.reduceEqDiff, reduceCtorEq, AS, row6_1 hro, row6_5 hro]
    refine X_call0 ((culletref04_Partial_w_spec w3 s1 s2 _ _ n h1 h2 (by omega) (by omega)).mono ?_)
    rintro _ w4 ⟨hB, ⟨-, -, -, sm', su', sv', m', u', v'', rfl, om', ou', ov', hE'⟩ | ⟨-, -, h0', -⟩ | ⟨hn, -⟩⟩
    · have om' := om'.sl
      have ou' := ou'.sl
      have ov' := ov'.sl
      have om := om.up hB
      have ou := ou.up hB
      have ov := ov.up hB
      have B := B.trans (hB.mono B.size)
      clear hB
      obtain ⟨rfl, rfl, rfl⟩ := hE.det (tr_tr L2) hE'
      obtain ⟨y1, y2, -, -⟩ := hE.lens
      have y5 := hE.mlen (N := 1024) (by rw [tr_len]; omega) (by rw [tr_len]; omega)
      have lm : (m.map em16).length = m.length := List.length_map ..
      have lu : (u.map em16).length = u.length := List.length_map ..
      have lv : (v'.map em16).length = v'.length := List.length_map ..
      simp (maxSteps := 1000000) (disch := omega) only [WS, List.getElem_cons_zero, List.getElem_cons_succ, Option.isNone_some, Option.isNone_none, List.getD_cons_zero, List.getD_cons_succ, I.at, atL, atO, atP, evp, evs, retV, ↓reduceIte, Nat.reduceEqDiff, reduceCtorEq, AS, show decide ((0 : Int) = 0) = true from rfl]
      refine X_call0 ((culletlaw04_same_spec w4 sm sm' _ _ om om' (by omega) (by omega)).mono ?_)
      rintro _ w5 ⟨rfl, hk⟩
      have hB := hk.1
      have ou := ou.up hB
      have ou' := ou'.up hB
      have ov := ov.up hB
      have ov' := ov'.up hB
      have B := B.trans (hB.mono B.size)
      clear hB
      rw [decide_eq_true rfl]
      simp (maxSteps := 1000000) (disch := omega) only [WS, List.getElem_cons_zero, List.getElem_cons_succ, Option.isNone_some, Option.isNone_none, List.getD_cons_zero, List.getD_cons_succ, I.at, atL, atO, atP, evp, evs, retV, ↓reduceIte, Nat.reduceEqDiff, reduceCtorEq, AS]
      refine X_call0 ((culletlaw04_same_spec w5 su su' _ _ ou ou' (by omega) (by omega)).mono ?_)
      rintro _ w6 ⟨rfl, hk⟩
      have hB := hk.1
      have ov := ov.up hB
      have ov' := ov'.up hB
      have B := B.trans (hB.mono B.size)
      clear hB
      rw [decide_eq_true rfl]
      simp (maxSteps := 1000000) (disch := omega) only [WS, List.getElem_cons_zero, List.getElem_cons_succ, Option.isNone_some, Option.isNone_none, List.getD_cons_zero, List.getD_cons_succ, I.at, atL, atO, atP, evp, evs, retV, ↓reduceIte, Nat.reduceEqDiff, reduceCtorEq, AS]
      refine X_call0 ((culletlaw04_same_spec w6 sv sv' _ _ ov ov' (by omega) (by omega)).mono ?_)
      rintro _ w7 ⟨rfl, hk⟩
      have hB := hk.1
      have B := B.trans (hB.mono B.size)
      clear hB
      rw [decide_eq_true rfl]
      simp (maxSteps := 1000000) (disch := omega) only [WS, List.getElem_cons_zero, List.getElem_cons_succ, Option.isNone_some, Option.isNone_none, List.getD_cons_zero, List.getD_cons_succ, I.at, atL, atO, atP, evp, evs, retV, ↓reduceIte, Nat.reduceEqDiff, reduceCtorEq, AS]
      exact B
    · omega
    · exact absurd ⟨by omega, by omega⟩ hn
  · have om := om.sl
    have ou := ou.sl
    have ov := ov.sl
    have h1 := h1.up hB
    have h2 := h2.up hB
    have hro := hro.up hB
    have B := B.trans (hB.mono B.size)
    clear hB
    simp (maxSteps := 1000000) (disch := omega) only [WS, List.getElem_cons_zero, List.getElem_cons_succ, Option.isNone_some, Option.isNone_none, List.getD_cons_zero, List.getD_cons_succ, I.at, atL, atO, atP, evp, evs, retV, ↓reduceIte, Nat.reduceEqDiff, reduceCtorEq, AS, row6_1 hro, row6_5 hro]
    refine X_call0 ((culletref04_Partial_w_spec w3 s1 s2 _ _ n h1 h2 (by omega) (by omega)).mono ?_)
    rintro _ w4 ⟨hB, ⟨-, -, h0', -⟩ | ⟨-, -, h0', rfl⟩ | ⟨hn, -⟩⟩
    · omega
    · have om := om.up hB
      have ou := ou.up hB
      have ov := ov.up hB
      have B := B.trans (hB.mono B.size)
      clear hB
      simp (maxSteps := 1000000) (disch := omega) only [WS, List.getElem_cons_zero, List.getElem_cons_succ, Option.isNone_some, Option.isNone_none, List.getD_cons_zero, List.getD_cons_succ, I.at, atL, atO, atP, evp, evs, retV, ↓reduceIte, Nat.reduceEqDiff, reduceCtorEq, AS, show decide ((7 : Int) = 7) = true from rfl]
      refine X_call0 ((culletlaw04_same_spec w4 sm _ _ _ om (Sl.nil (α := El 16) w4) (by simp) (by simp)).mono ?_)
      rintro _ w5 ⟨rfl, hk⟩
      have hB := hk.1
      have ou := ou.up hB
      have ov := ov.up hB
      have B := B.trans (hB.mono B.size)
      clear hB
      rw [decide_eq_true rfl]
      simp (maxSteps := 1000000) (disch := omega) only [WS, List.getElem_cons_zero, List.getElem_cons_succ, Option.isNone_some, Option.isNone_none, List.getD_cons_zero, List.getD_cons_succ, I.at, atL, atO, atP, evp, evs, retV, ↓reduceIte, Nat.reduceEqDiff, reduceCtorEq, AS]
      refine X_call0 ((culletlaw04_same_spec w5 su _ _ _ ou (Sl.nil (α := El 16) w5) (by simp) (by simp)).mono ?_)
      rintro _ w6 ⟨rfl, hk⟩
      have hB := hk.1
      have ov := ov.up hB
      have B := B.trans (hB.mono B.size)
      clear hB
      rw [decide_eq_true rfl]
      simp (maxSteps := 1000000) (disch := omega) only [WS, List.getElem_cons_zero, List.getElem_cons_succ, Option.isNone_some, Option.isNone_none, List.getD_cons_zero, List.getD_cons_succ, I.at, atL, atO, atP, evp, evs, retV, ↓reduceIte, Nat.reduceEqDiff, reduceCtorEq, AS]
      refine X_call0 ((culletlaw04_same_spec w6 sv _ _ _ ov (Sl.nil (α := El 16) w6) (by simp) (by simp)).mono ?_)
      rintro _ w7 ⟨rfl, hk⟩
      have hB := hk.1
      have B := B.trans (hB.mono B.size)
      clear hB
      rw [decide_eq_true rfl]
      simp (maxSteps := 1000000) (disch := omega) only [WS, List.getElem_cons_zero, List.getElem_cons_succ, Option.isNone_some, Option.isNone_none, List.getD_cons_zero, List.getD_cons_succ, I.at, atL, atO, atP, evp, evs, retV, ↓reduceIte, Nat.reduceEqDiff, reduceCtorEq, AS]
      exact B
    · exact absurd ⟨by omega, by omega⟩ hn
  · have om := om.sl
    have ou := ou.sl
    have ov := ov.sl
    have h1 := h1.up hB
    have h2 := h2.up hB
    have hro := hro.up hB
    have B := B.trans (hB.mono B.size)
    clear hB
    simp (maxSteps := 1000000) (disch := omega) only [WS, List.getElem_cons_zero, List.getElem_cons_succ, Option.isNone_some, Option.isNone_none, List.getD_cons_zero, List.getD_cons_succ, I.at, atL, atO, atP, evp, evs, retV, ↓reduceIte, Nat.reduceEqDiff, reduceCtorEq, AS, row6_1 hro, row6_5 hro]
    refine X_call0 ((culletref04_Partial_w_spec w3 s1 s2 _ _ n h1 h2 (by omega) (by omega)).mono ?_)
    rintro _ w4 ⟨hB, ⟨q1, q2, -⟩ | ⟨q1, q2, -⟩ | ⟨-, rfl⟩⟩
    · exact absurd ⟨by omega, by omega⟩ hn
    · exact absurd ⟨by omega, by omega⟩ hn
    · have om := om.up hB
      have ou := ou.up hB
      have ov := ov.up hB
      have B := B.trans (hB.mono B.size)
      clear hB
      simp (maxSteps := 1000000) (disch := omega) only [WS, List.getElem_cons_zero, List.getElem_cons_succ, Option.isNone_some, Option.isNone_none, List.getD_cons_zero, List.getD_cons_succ, I.at, atL, atO, atP, evp, evs, retV, ↓reduceIte, Nat.reduceEqDiff, reduceCtorEq, AS, show decide ((5 : Int) = 5) = true from rfl]
      refine X_call0 ((culletlaw04_same_spec w4 sm _ _ _ om (Sl.nil (α := El 16) w4) (by simp) (by simp)).mono ?_)
      rintro _ w5 ⟨rfl, hk⟩
      have hB := hk.1
      have ou := ou.up hB
      have ov := ov.up hB
      have B := B.trans (hB.mono B.size)
      clear hB
      rw [decide_eq_true rfl]
      simp (maxSteps := 1000000) (disch := omega) only [WS, List.getElem_cons_zero, List.getElem_cons_succ, Option.isNone_some, Option.isNone_none, List.getD_cons_zero, List.getD_cons_succ, I.at, atL, atO, atP, evp, evs, retV, ↓reduceIte, Nat.reduceEqDiff, reduceCtorEq, AS]
      refine X_call0 ((culletlaw04_same_spec w5 su _ _ _ ou (Sl.nil (α := El 16) w5) (by simp) (by simp)).mono ?_)
      rintro _ w6 ⟨rfl, hk⟩
      have hB := hk.1
      have ov := ov.up hB
      have B := B.trans (hB.mono B.size)
      clear hB
      rw [decide_eq_true rfl]
      simp (maxSteps := 1000000) (disch := omega) only [WS, List.getElem_cons_zero, List.getElem_cons_succ, Option.isNone_some, Option.isNone_none, List.getD_cons_zero, List.getD_cons_succ, I.at, atL, atO, atP, evp, evs, retV, ↓reduceIte, Nat.reduceEqDiff, reduceCtorEq, AS]
      refine X_call0 ((culletlaw04_same_spec w6 sv _ _ _ ov (Sl.nil (α := El 16) w6) (by simp) (by simp)).mono ?_)
      rintro _ w7 ⟨rfl, hk⟩
      have hB := hk.1
      have B := B.trans (hB.mono B.size)
      clear hB
      rw [decide_eq_true rfl]
      simp (maxSteps := 1000000) (disch := omega) only [WS, List.getElem_cons_zero, List.getElem_cons_succ, Option.isNone_some, Option.isNone_none, List.getD_cons_zero, List.getD_cons_succ, I.at, atL, atO, atP, evp, evs, retV, ↓reduceIte, Nat.reduceEqDiff, reduceCtorEq, AS]
      exact B
end Go.Proofs.YtcdagkcchfibjaaGreat.Fw

namespace Go.Proofs.YtcdagkcchfibjaaGreat.Fw
open Go Go.Fw
theorem culletlaw04_simple3_b_spec (w : World) (rb rw F G s1 s2 : Value) (L1 L2 : List (El 8)) (x : El 16) (n : Int) (hb : Ring_b w rb) (hw : Ring_w w rw) (h1 : Sl w s1 (L1.map em8)) (h2 : Sl w s2 (L2.map em8)) (b1 : L1.length ≤ 70368744175616) (b2 : L2.length ≤ 70368744175616) :
    CallV Tryz.prog 17 [.agg #[rb, rw], .agg #[.int .i64 3, .bool false, F, G, .int .u16 (x.v.toNat : Int), .int .i64 n], s1, s2] w fun v w' => v = .bool true ∧ RowKit.Below w.heap.size w w' := by
  have m1 : (L1.map em8).length = L1.length := List.length_map ..
  have dt : ∀ e : Int, decide (e = e) = true := fun e => decide_eq_true rfl
  refine run_culletlaw04_simple (by simp) ?_
  simp only [c_culletlaw04_simple, WS, List.getElem_cons_zero, List.getElem_cons_succ, Option.isNone_some, Option.isNone_none, List.getD_cons_zero, List.getD_cons_succ, I.at, atL, atO, atP, evp, evs, retV, ↓reduceIte, Nat.reduceEqDiff, reduceCtorEq]
  refine X_box fun b w1 hr hlb hB => ?_
  have hr : Row w1 b [rb, rw] := hr
  have B := hB
  have hb := hb.up hB
  have hw := hw.up hB
  have h1 := h1.up hB
  have h2 := h2.up hB
  clear hB hlb
  simp (maxSteps := 1000000) (disch := omega) only [WS, List.getElem_cons_zero, List.getElem_cons_succ, Option.isNone_some, Option.isNone_none, List.getD_cons_zero, List.getD_cons_succ, I.at, atL, atO, atP, evp, evs, retV, ↓reduceIte, Nat.reduceEqDiff, reduceCtorEq, AS]
  refine X_box fun bo w2 hro hlb hB => ?_
  have hro : Row w2 bo [.int .i64 3, .bool false, F, G, .int .u16 (x.v.toNat : Int), .int .i64 n] := hro
  have hb := hb.up hB
  have hw := hw.up hB
  have h1 := h1.up hB
  have h2 := h2.up hB
  have hr := hr.up hB
  have B := B.trans (hB.mono B.size)
  clear hB
  clear hlb
  simp (maxSteps := 1000000) (disch := omega) only [WS, List.getElem_cons_zero, List.getElem_cons_succ, Option.isNone_some, Option.isNone_none, List.getD_cons_zero, List.getD_cons_succ, I.at, atL, atO, atP, evp, evs, retV, ↓reduceIte, Nat.reduceEqDiff, reduceCtorEq, AS, row6_0 hro, show decide ((3 : Int) = 1) = false from rfl, show decide ((3 : Int) = 2) = false from rfl, show decide ((3 : Int) = 3) = true from rfl]
  refine WP_dops ?_
  have hrd := hr.drew
  have hrod := hro.drew
  have z0 := hrd.seesN (n := 2) rfl Tryz.prog
  have z1 := row6s_1 hrod Tryz.prog
  have z4 := row6s_4 hrod Tryz.prog
  simp (maxSteps := 1000000) (disch := omega) only [ES, List.mem_cons, List.not_mem_nil, implies_true, forall_const, WS, List.getElem_cons_zero, List.getElem_cons_succ, Option.isNone_some, Option.isNone_none, List.getD_cons_zero, List.getD_cons_succ, I.at, atL, atO, atP, evp, evs, retV, ↓reduceIte, Nat.reduceEqDiff, reduceCtorEq, AS, row6e_1 hrod, row6e_4 hrod, hrd.Eldn (n := 2) rfl]
  refine E_call0 ((culletlaw04_one_b_spec w2.drew x).mono ?_)
  rintro _ w3 ⟨rfl, rfl⟩
  simp (maxSteps := 1000000) (disch := omega) only [ES, List.mem_cons, List.not_mem_nil, implies_true, forall_const, WS, List.getElem_cons_zero, List.getElem_cons_succ, Option.isNone_some, Option.isNone_none, List.getD_cons_zero, List.getD_cons_succ, I.at, atL, atO, atP, evp, evs, retV, ↓reduceIte, Nat.reduceEqDiff, reduceCtorEq, AS, z0, z1, z4]
  refine E_call0 ((culletlaw04_Rings_eval_b_spec w2.drew rb rw s1 _ (lo8 x) (hb.up (bel_drew w2)) (hw.up (bel_drew w2)) h1.drew (by omega)).mono ?_)
  rintro _ w4 ⟨hB, rfl⟩
  have hB := (bel_drew w2).trans hB
  have hro4 := hro.up hB
  have h1 := h1.up hB
  have B := B.trans (hB.mono B.size)
  clear hB
  have y1 := row6s_1 hro4 Tryz.prog
  have y4 := row6s_4 hro4 Tryz.prog
  simp (maxSteps := 1000000) (disch := omega) only [ES, List.mem_cons, List.not_mem_nil, implies_true, forall_const, WS, List.getElem_cons_zero, List.getElem_cons_succ, Option.isNone_some, Option.isNone_none, List.getD_cons_zero, List.getD_cons_succ, I.at, atL, atO, atP, evp, evs, retV, ↓reduceIte, Nat.reduceEqDiff, reduceCtorEq, AS, row6e_1 hro4, row6e_4 hro4, z1, z4, y1, y4]
  refine E_call0 ((culletlaw04_one_b_spec w4 x).mono ?_)
  rintro _ w5 ⟨rfl, rfl⟩
  simp (maxSteps := 1000000) (disch := omega) only [ES, List.mem_cons, List.not_mem_nil, implies_true, forall_const, WS, List.getElem_cons_zero, List.getElem_cons_succ, Option.isNone_some, Option.isNone_none, List.getD_cons_zero, List.getD_cons_succ, I.at, atL, atO, atP, evp, evs, retV, ↓reduceIte, Nat.reduceEqDiff, reduceCtorEq, AS, z1, z4, y1, y4]
  refine E_call0 ((culletref04_Eval_b_spec w5 s1 L1 (lo8 x) h1 (by omega)).mono ?_)
  rintro _ w6 ⟨rfl, rfl⟩
  rw [lo8_map_em8]
  simp (maxSteps := 1000000) (disch := omega) only [ES, List.mem_cons, List.not_mem_nil, implies_true, forall_const, WS, List.getElem_cons_zero, List.getElem_cons_succ, Option.isNone_some, Option.isNone_none, List.getD_cons_zero, List.getD_cons_succ, I.at, atL, atO, atP, evp, evs, retV, ↓reduceIte, Nat.reduceEqDiff, reduceCtorEq, AS, dt]
  exact B
theorem culletlaw04_partial10_b_spec (w : World) (rb rw F G s1 s2 : Value) (L1 L2 : List (El 8)) (x : El 16) (n : Int) (hb : Ring_b w rb) (hw : Ring_w w rw) (h1 : Sl w s1 (L1.map em8)) (h2 : Sl w s2 (L2.map em8)) (b1 : L1.length ≤ 70368744175616) (b2 : L2.length ≤ 70368744175616) :
    CallV Tryz.prog 20 [.agg #[rb, rw], .agg #[.int .i64 10, .bool false, F, G, .int .u16 (x.v.toNat : Int), .int .i64 n], s1, s2] w fun v w' => v = .bool true ∧ RowKit.Below w.heap.size w w' := by
  have m1 : (L1.map em8).length = L1.length := List.length_map ..
  have m2 : (L2.map em8).length = L2.length := List.length_map ..
  have l1' := tln_le L1
  have l2' := tln_le L2
  refine run_culletlaw04_partial (by simp) ?_
  simp only [c_culletlaw04_partial, WS, List.getElem_cons_zero, List.getElem_cons_succ, Option.isNone_some, Option.isNone_none, List.getD_cons_zero, List.getD_cons_succ, I.at, atL, atO, atP, evp, evs, retV, ↓reduceIte, Nat.reduceEqDiff, reduceCtorEq]
  refine X_box fun b w1 hr hlb hB => ?_
  have hr : Row w1 b [rb, rw] := hr
  have B := hB
  have hb := hb.up hB
  have hw := hw.up hB
  have h1 := h1.up hB
  have h2 := h2.up hB
  clear hB hlb
  simp (maxSteps := 1000000) (disch := omega) only [WS, List.getElem_cons_zero, List.getElem_cons_succ, Option.isNone_some, Option.isNone_none, List.getD_cons_zero, List.getD_cons_succ, I.at, atL, atO, atP, evp, evs, retV, ↓reduceIte, Nat.reduceEqDiff, reduceCtorEq, AS]
  refine X_box fun bo w2 hro hlb hB => ?_
  have hro : Row w2 bo [.int .i64 10, .bool false, F, G, .int .u16 (x.v.toNat : Int), .int .i64 n] := hro
  have hb := hb.up hB
  have hw := hw.up hB
  have h1 := h1.up hB
  have h2 := h2.up hB
  have hr := hr.up hB
  have B := B.trans (hB.mono B.size)
  clear hB
  clear hlb
  simp (maxSteps := 1000000) (disch := omega) only [WS, List.getElem_cons_zero, List.getElem_cons_succ, Option.isNone_some, Option.isNone_none, List.getD_cons_zero, List.getD_cons_succ, I.at, atL, atO, atP, evp, evs, retV, ↓reduceIte, Nat.reduceEqDiff, reduceCtorEq, AS, hr.Xldn (n := 2) rfl, row6_1 hro, row6_5 hro]
  refine X_call0 ((culletlaw04_Rings_partial_b_spec w2 rb rw s1 s2 _ _ n hb hw h1 h2 (by omega) (by omega)).mono ?_)
  rw [lo8_map_em8, lo8_map_em8]
  rintro _ w3 ⟨hB, ⟨q1, q2, h0, sm, su, sv, m, u, v', rfl, om, ou, ov, hE⟩ | ⟨q1, q2, h0, sm, su, sv, rfl, om, ou, ov⟩ | ⟨hn, sm, su, sv, rfl, om, ou, ov⟩⟩
  · have om := om.sl
    have ou := ou.sl
    have ov := ov.sl
    have h1 := h1.up hB
    have h2 := h2.up hB
    have hro := hro.up hB
    have B := B.trans (hB.mono B.size)
    clear hB
    simp (maxSteps := 1000000) (disch := omega) only [WS, List.getElem_cons_zero, List.getElem_cons_succ, Option.isNone_some, Option.isNone_none, List.getD_cons_zero, List.getD_cons_succ, I.at, atL, atO, atP, evp, evs, retV, ↓reduceIte, Nat.reduceEqDiff, reduceCtorEq, AS, row6_1 hro, row6_5 hro]
    refine X_call0 ((culletref04_Partial_b_spec w3 s1 s2 _ _ n h1 h2 (by omega) (by omega)).mono ?_)
    rintro _ w4 ⟨hB, ⟨-, -, -, sm', su', sv', m', u', v'', rfl, om', ou', ov', hE'⟩ | ⟨-, -, h0', -⟩ | ⟨hn, -⟩⟩
    · have om' := om'.sl
      have ou' := ou'.sl
      have ov' := ov'.sl
      have om := om.up hB
      have ou := ou.up hB
      have ov := ov.up hB
      have B := B.trans (hB.mono B.size)
      clear hB
      obtain ⟨rfl, rfl, rfl⟩ := hE.det (tr_tr L2) hE'
      obtain ⟨y1, y2, -, -⟩ := hE.lens
      have y5 := hE.mlen (N := 1024) (by rw [tr_len]; omega) (by rw [tr_len]; omega)
      have lm : (m.map em8).length = m.length := List.length_map ..
      have lu : (u.map em8).length = u.length := List.length_map ..
      have lv : (v'.map em8).length = v'.length := List.length_map ..
      simp (maxSteps := 1000000) (disch := omega) only [WS, List.getElem_cons_zero, List.getElem_cons_succ, Option.isNone_some, Option.isNone_none, List.getD_cons_zero, List.getD_cons_succ, I.at, atL, atO, atP, evp, evs, retV, ↓reduceIte, Nat.reduceEqDiff, reduceCtorEq, AS, show decide ((0 : Int) = 0) = true from rfl]
      refine X_call0 ((culletlaw04_same_spec w4 sm sm' _ _ om om' (by omega) (by omega)).mono ?_)
      rintro _ w5 ⟨rfl, hk⟩
      have hB := hk.1
      have ou := ou.up hB
      have ou' := ou'.up hB
      have ov := ov.up hB
      have ov' := ov'.up hB
      have B := B.trans (hB.mono B.size)
      clear hB
      rw [decide_eq_true rfl]
      simp (maxSteps := 1000000) (disch := omega) only [WS, List.getElem_cons_zero, List.getElem_cons_succ, Option.isNone_some, Option.isNone_none, List.getD_cons_zero, List.getD_cons_succ, I.at, atL, atO, atP, evp, evs, retV, ↓reduceIte, Nat.reduceEqDiff, reduceCtorEq, AS]
      refine X_call0 ((culletlaw04_same_spec w5 su su' _ _ ou ou' (by omega) (by omega)).mono ?_)
      rintro _ w6 ⟨rfl, hk⟩
      have hB := hk.1
      have ov := ov.up hB
      have ov' := ov'.up hB
      have B := B.trans (hB.mono B.size)
      clear hB
      rw [decide_eq_true rfl]
      simp (maxSteps := 1000000) (disch := omega) only [WS, List.getElem_cons_zero, List.getElem_cons_succ, Option.isNone_some, Option.isNone_none, List.getD_cons_zero, List.getD_cons_succ, I.at, atL, atO, atP, evp, evs, retV, ↓reduceIte, Nat.reduceEqDiff, reduceCtorEq, AS]
      refine X_call0 ((culletlaw04_same_spec w6 sv sv' _ _ ov ov' (by omega) (by omega)).mono ?_)
      rintro _ w7 ⟨rfl, hk⟩
      have hB := hk.1
      have B := B.trans (hB.mono B.size)
      clear hB
      rw [decide_eq_true rfl]
      simp (maxSteps := 1000000) (disch := omega) only [WS, List.getElem_cons_zero, List.getElem_cons_succ, Option.isNone_some, Option.isNone_none, List.getD_cons_zero, List.getD_cons_succ, I.at, atL, atO, atP, evp, evs, retV, ↓reduceIte, Nat.reduceEqDiff, reduceCtorEq, AS]
      exact B
    · omega
    · exact absurd ⟨by omega, by omega⟩ hn
  · have om := om.sl
    have ou := ou.sl
    have ov := ov.sl
    have h1 := h1.up hB
    have h2 := h2.up hB
    have hro := hro.up hB
    have B := B.trans (hB.mono B.size)
    clear hB
    simp (maxSteps := 1000000) (disch := omega) only [WS, List.getElem_cons_zero, List.getElem_cons_succ, Option.isNone_some, Option.isNone_none, List.getD_cons_zero, List.getD_cons_succ, I.at, atL, atO, atP, evp, evs, retV, ↓reduceIte, Nat.reduceEqDiff, reduceCtorEq, AS, row6_1 hro, row6_5 hro]
    refine X_call0 ((culletref04_Partial_b_spec w3 s1 s2 _ _ n h1 h2 (by omega) (by omega)).mono ?_)
    rintro _ w4 ⟨hB, ⟨-, -, h0', -⟩ | ⟨-, -, h0', rfl⟩ | ⟨hn, -⟩⟩
    · omega
    · have om := om.up hB
      have ou := ou.up hB
      have ov := ov.up hB
      have B := B.trans (hB.mono B.size)
      clear hB
      simp (maxSteps := 1000000) (disch := omega) only [WS, List.getElem_cons_zero, List.getElem_cons_succ, Option.isNone_some, Option.isNone_none, List.getD_cons_zero, List.getD_cons_succ, I.at, atL, atO, atP, evp, evs, retV, ↓reduceIte, Nat.reduceEqDiff, reduceCtorEq, AS, show decide ((7 : Int) = 7) = true from rfl]
      refine X_call0 ((culletlaw04_same_spec w4 sm _ _ _ om (Sl.nil (α := El 16) w4) (by simp) (by simp)).mono ?_)
      rintro _ w5 ⟨rfl, hk⟩
      have hB := hk.1
      have ou := ou.up hB
      have ov := ov.up hB
      have B := B.trans (hB.mono B.size)
      clear hB
      rw [decide_eq_true rfl]
      simp (maxSteps := 1000000) (disch := omega) only [WS, List.getElem_cons_zero, List.getElem_cons_succ, Option.isNone_some, Option.isNone_none, List.getD_cons_zero, List.getD_cons_succ, I.at, atL, atO, atP, evp, evs, retV, ↓reduceIte, Nat.reduceEqDiff, reduceCtorEq, AS]
      refine X_call0 ((culletlaw04_same_spec w5 su _ _ _ ou (Sl.nil (α := El 16) w5) (by simp) (by simp)).mono ?_)
      rintro _ w6 ⟨rfl, hk⟩
      have hB := hk.1
      have ov := ov.up hB
      have B := B.trans (hB.mono B.size)
      clear hB
      rw [decide_eq_true rfl]
      simp (maxSteps := 1000000) (disch := omega) only [WS, List.getElem_cons_zero, List.getElem_cons_succ, Option.isNone_some, Option.isNone_none, List.getD_cons_zero, List.getD_cons_succ, I.at, atL, atO, atP, evp, evs, retV, ↓reduceIte, Nat.reduceEqDiff, reduceCtorEq, AS]
      refine X_call0 ((culletlaw04_same_spec w6 sv _ _ _ ov (Sl.nil (α := El 16) w6) (by simp) (by simp)).mono ?_)
      rintro _ w7 ⟨rfl, hk⟩
      have hB := hk.1
      have B := B.trans (hB.mono B.size)
      clear hB
      rw [decide_eq_true rfl]
      simp (maxSteps := 1000000) (disch := omega) only [WS, List.getElem_cons_zero, List.getElem_cons_succ, Option.isNone_some, Option.isNone_none, List.getD_cons_zero, List.getD_cons_succ, I.at, atL, atO, atP, evp, evs, retV, ↓reduceIte, Nat.reduceEqDiff, reduceCtorEq, AS]
      exact B
    · exact absurd ⟨by omega, by omega⟩ hn
  · have om := om.sl
    have ou := ou.sl
    have ov := ov.sl
    have h1 := h1.up hB
    have h2 := h2.up hB
    have hro := hro.up hB
    have B := B.trans (hB.mono B.size)
    clear hB
    simp (maxSteps := 1000000) (disch := omega) only [WS, List.getElem_cons_zero, List.getElem_cons_succ, Option.isNone_some, Option.isNone_none, List.getD_cons_zero, List.getD_cons_succ, I.at, atL, atO, atP, evp, evs, retV, ↓reduceIte, Nat.reduceEqDiff, reduceCtorEq, AS, row6_1 hro, row6_5 hro]
    refine X_call0 ((culletref04_Partial_b_spec w3 s1 s2 _ _ n h1 h2 (by omega) (by omega)).mono ?_)
    rintro _ w4 ⟨hB, ⟨q1, q2, -⟩ | ⟨q1, q2, -⟩ | ⟨-, rfl⟩⟩
    · exact absurd ⟨by omega, by omega⟩ hn
    · exact absurd ⟨by omega, by omega⟩ hn
    · have om := om.up hB
      have ou := ou.up hB
      have ov := ov.up hB
      have B := B.trans (hB.mono B.size)
      clear hB
      simp (maxSteps := 1000000) (disch := omega) only [WS, List.getElem_cons_zero, List.getElem_cons_succ, Option.isNone_some, Option.isNone_none, List.getD_cons_zero, List.getD_cons_succ, I.at, atL, atO, atP, evp, evs, retV, ↓reduceIte, Nat.reduceEqDiff, reduceCtorEq, AS, show decide ((5 : Int) = 5) = true from rfl]
      refine X_call0 ((culletlaw04_same_spec w4 sm _ _ _ om (Sl.nil (α := El 16) w4) (by simp) (by simp)).mono ?_)
      rintro _ w5 ⟨rfl, hk⟩
      have hB := hk.1
      have ou := ou.up hB
      have ov := ov.up hB
      have B := B.trans (hB.mono B.size)
      clear hB
      rw [decide_eq_true rfl]
      simp (maxSteps := 1000000) (disch := omega) only [WS, List.getElem_cons_zero, List.getElem_cons_succ, Option.isNone_some, Option.isNone_none, List.getD_cons_zero, List.getD_cons_succ, I.at, atL, atO, atP, evp, evs, retV, ↓reduceIte, Nat.reduceEqDiff, reduceCtorEq, AS]
      refine X_call0 ((culletlaw04_same_spec w5 su _ _ _ ou (Sl.nil (α := El 16) w5) (by simp) (by simp)).mono ?_)
      rintro _ w6 ⟨rfl, hk⟩
      have hB := hk.1
      have ov := ov.up hB
      have B := B.trans (hB.mono B.size)
      clear hB
      rw [decide_eq_true rfl]
      simp (maxSteps := 1000000) (disch := omega) only [WS, List.getElem_cons_zero, List.getElem_cons_succ, Option.isNone_some, Option.isNone_none, List.getD_cons_zero, List.getD_cons_succ, I.at, atL, atO, atP, evp, evs, retV, ↓reduceIte, Nat.reduceEqDiff, reduceCtorEq, AS]
      refine X_call0 ((culletlaw04_same_spec w6 sv _ _ _ ov (Sl.nil (α := El 16) w6) (by simp) (by simp)).mono ?_)
      rintro _ w7 ⟨rfl, hk⟩
      have hB := hk.1
      have B := B.trans (hB.mono B.size)
      clear hB
      rw [decide_eq_true rfl]
      simp (maxSteps := 1000000) (disch := omega) only [WS, List.getElem_cons_zero, List.getElem_cons_succ, Option.isNone_some, Option.isNone_none, List.getD_cons_zero, List.getD_cons_succ, I.at, atL, atO, atP, evp, evs, retV, ↓reduceIte, Nat.reduceEqDiff, reduceCtorEq, AS]
      exact B
end Go.Proofs.YtcdagkcchfibjaaGreat.Fw
