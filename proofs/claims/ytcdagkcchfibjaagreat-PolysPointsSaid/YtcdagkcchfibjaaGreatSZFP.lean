import Derived.Test.YtcdagkcchfibjaaGreatProg
import Derived.Test.YtcdagkcchfibjaaGreatFwTP
import Derived.Test.YtcdagkcchfibjaaGreatSZDP
import Derived.Test.YtcdagkcchfibjaaGreatFwApP
import Derived.Test.YtcdagkcchfibjaaGreatGfSP
import Derived.Test.YtcdagkcchfibjaaGreatGfEP
set_option linter.all false
set_option linter.unusedVariables false
set_option linter.unusedSimpArgs false
set_option maxRecDepth 100000
set_option maxHeartbeats 1000000
namespace Go.Proofs.YtcdagkcchfibjaaGreat.Fw
open Go Go.Fw Go.Proofs
attribute [local irreducible] stepI
def c_culletref04_divide : C := .seq (.ops [⟨0, (some 6), none, .mov (.c (.slice none 0 0)), []⟩, ⟨1, (some 7), none, .mov (.c (.slice none 0 0)), []⟩]) (.seq (.ops [⟨0, (some 15), none, .mov (.t 2), []⟩, ⟨1, (some 16), none, .call (.c (.func (.func 36) #[] #[])) [.t 15], []⟩, ⟨2, (some 8), none, .mov (.t 16), []⟩]) (.seq (.ops [⟨0, (some 17), none, .mov (.t 0), []⟩, ⟨1, (some 18), none, .mov (.t 2), []⟩, ⟨2, (some 19), none, .mov (.t 8), []⟩, ⟨3, (some 20), none, .ixs 1 (.t 18) (.t 19), []⟩, ⟨4, (some 21), none, .ld (.t 20), []⟩, ⟨5, (some 22), none, .call (.c (.func (.func 74) #[] #[])) [.t 17, .t 21], []⟩, ⟨6, (some 9), none, .mov (.t 22), []⟩]) (.seq (.ops [⟨0, (some 23), none, .mov (.t 1), []⟩, ⟨1, (some 24), none, .call (.c (.func (.func 34) #[] #[])) [.t 23], []⟩, ⟨2, (some 10), none, .mov (.t 24), []⟩]) (.seq (.ops [⟨0, (some 25), none, .mov (.t 10), []⟩, ⟨1, (some 26), none, .len (.t 25), []⟩, ⟨2, (some 27), none, .mks 32 2 [.int .u16 0] (.t 26) (.t 26), []⟩, ⟨3, (some 11), none, .mov (.t 27), []⟩]) (.seq (.seq (.ops [⟨0, (some 28), none, .mov (.t 10), []⟩, ⟨1, (some 29), none, .len (.t 28), []⟩, ⟨2, (some 30), none, .bin .sub (.t 29) (.c (.int .i64 1)), []⟩, ⟨3, (some 12), none, .mov (.t 30), []⟩]) (.block 0 (.loop (.seq (.seq (.ops [⟨0, (some 31), none, .mov (.t 12), []⟩, ⟨1, (some 32), none, .mov (.t 8), []⟩, ⟨2, (some 33), none, .bin .geq (.t 31) (.t 32), []⟩]) (.ite (.t 33) .skip (.exit 0))) (.seq (.block 1 (.seq (.ops [⟨0, (some 36), none, .mov (.t 0), []⟩, ⟨1, (some 37), none, .mov (.t 10), []⟩, ⟨2, (some 38), none, .mov (.t 12), []⟩, ⟨3, (some 39), none, .ixs 1 (.t 37) (.t 38), []⟩, ⟨4, (some 40), none, .ld (.t 39), []⟩, ⟨5, (some 41), none, .mov (.t 9), []⟩, ⟨6, (some 42), none, .call (.c (.func (.func 67) #[] #[])) [.t 36, .t 40, .t 41], []⟩, ⟨7, (some 13), none, .mov (.t 42), []⟩]) (.seq (.ops [⟨0, (some 43), none, .mov (.t 11), []⟩, ⟨1, (some 44), none, .mov (.t 12), []⟩, ⟨2, (some 45), none, .mov (.t 8), []⟩, ⟨3, (some 46), none, .bin .sub (.t 44) (.t 45), []⟩, ⟨4, (some 47), none, .mov (.t 13), []⟩, ⟨5, (some 48), none, .ixs 1 (.t 43) (.t 46), []⟩, ⟨6, none, none, .st (.t 48) (.t 47), []⟩]) (.seq (.ops [⟨0, (some 14), none, .mov (.c (.int .i64 0)), []⟩]) (.block 2 (.loop (.seq (.seq (.ops [⟨0, (some 49), none, .mov (.t 14), []⟩, ⟨1, (some 50), none, .mov (.t 8), []⟩, ⟨2, (some 51), none, .bin .leq (.t 49) (.t 50), []⟩, ⟨3, (some 52), none, .mov (.t 51), []⟩, ⟨4, (some 53), (some (52, true)), .mov (.t 13), []⟩, ⟨5, (some 54), (some (52, true)), .bin .neq (.t 53) (.c (.int .u16 0)), []⟩, ⟨6, (some 55), none, .pick (.t 52) (.t 54) (.c (.bool false)), []⟩]) (.ite (.t 55) .skip (.exit 2))) (.seq (.block 3 (.dops [⟨0, (some 58), none, .mov (.t 10), []⟩, ⟨1, (some 59), none, .mov (.t 12), []⟩, ⟨2, (some 60), none, .mov (.t 8), []⟩, ⟨3, (some 61), none, .bin .sub (.t 59) (.t 60), []⟩, ⟨4, (some 62), none, .mov (.t 14), []⟩, ⟨5, (some 63), none, .bin .add (.t 61) (.t 62), []⟩, ⟨6, (some 64), none, .mov (.t 10), []⟩, ⟨7, (some 65), none, .mov (.t 12), []⟩, ⟨8, (some 66), none, .mov (.t 8), []⟩, ⟨9, (some 67), none, .bin .sub (.t 65) (.t 66), []⟩, ⟨10, (some 68), none, .mov (.t 14), []⟩, ⟨11, (some 69), none, .bin .add (.t 67) (.t 68), []⟩, ⟨12, (some 70), none, .ixs 1 (.t 64) (.t 69), []⟩, ⟨13, (some 71), none, .ld (.t 70), []⟩, ⟨14, (some 72), none, .mov (.t 0), []⟩, ⟨15, (some 73), none, .mov (.t 13), []⟩, ⟨16, (some 74), none, .mov (.t 2), []⟩, ⟨17, (some 75), none, .mov (.t 14), []⟩, ⟨18, (some 76), none, .ixs 1 (.t 74) (.t 75), []⟩, ⟨19, (some 77), none, .ld (.t 76), []⟩, ⟨20, (some 78), none, .call (.c (.func (.func 67) #[] #[])) [.t 72, .t 73, .t 77], [13]⟩, ⟨21, (some 79), none, .bin .xor (.t 71) (.t 78), []⟩, ⟨22, (some 80), none, .ixs 1 (.t 58) (.t 63), []⟩, ⟨23, none, none, .st (.t 80) (.t 79), []⟩])) (.ops [⟨0, (some 56), none, .mov (.t 14), []⟩, ⟨1, (some 57), none, .bin .add (.t 56) (.c (.int .i64 1)), []⟩, ⟨2, (some 14), none, .mov (.t 57), []⟩]))))))))) (.ops [⟨0, (some 34), none, .mov (.t 12), []⟩, ⟨1, (some 35), none, .bin .sub (.t 34) (.c (.int .i64 1)), []⟩, ⟨2, (some 12), none, .mov (.t 35), []⟩])))))) (.seq (.ops [⟨0, (some 81), none, .mov (.t 11), []⟩, ⟨1, (some 82), none, .call (.c (.func (.func 34) #[] #[])) [.t 81], []⟩, ⟨2, (some 83), none, .mov (.t 10), []⟩, ⟨3, (some 84), none, .call (.c (.func (.func 34) #[] #[])) [.t 83], []⟩, ⟨4, (some 6), none, .mov (.t 82), []⟩, ⟨5, (some 7), none, .mov (.t 84), []⟩]) .ret))))))
attribute [irreducible] c_culletref04_divide
theorem run_culletref04_divide {args : List Value} {w : World} {K : Value → World → Prop} (hn : args.length ≤ 85) (h : WP Tryz.prog c_culletref04_divide (endQ [.t 6, .t 7] K) (initT args) w) : CallV Tryz.prog 73 args w K :=
  call_of follows Tryz.func73 (by kernel_rfl) (by kernel_rfl) hn h
end Go.Proofs.YtcdagkcchfibjaaGreat.Fw
namespace Go.Proofs.YtcdagkcchfibjaaGreat.Fw
open Go Go.Fw
theorem culletref04_divide_w_spec (w : World) (s1 s2 : Value) (f g : List (El 16)) (h1 : Sl w s1 (f.map em16)) (h2 : Sl w s2 (g.map em16)) (hb1 : f.length ≤ 2097152) (hb2 : g.length ≤ 2097152) (hg0 : tln g ≠ 0) :
    CallV Tryz.prog 73 [.bool true, s1, s2] w fun v w' => ∃ (sq sm : Value) (q m : List (El 16)), v = .tuple #[sq, sm] ∧ Ow w.heap.size w' sq (q.map em16) ∧ Ow w.heap.size w' sm (m.map em16) ∧ tr q = q ∧ tr m = m ∧ co f = co q * co g + co m ∧ m.length < tln g ∧ m.length ≤ f.length ∧ q.length ≤ f.length ∧ RowKit.Below w.heap.size w w' := by
  refine run_culletref04_divide (by simp) ?_
  simp only [c_culletref04_divide, WS, List.getElem_cons_zero, List.getElem_cons_succ, Option.isNone_some, Option.isNone_none, List.getD_cons_zero, List.getD_cons_succ, I.at, atL, atO, atP, evp, evs, retV, ↓reduceIte, Nat.reduceEqDiff, reduceCtorEq]
  have hm1 : (f.map em16).length = f.length := List.length_map ..
  have hm2 : (g.map em16).length = g.length := List.length_map ..
  have hgl := tln_le g
  have hfl := tln_le f
  obtain ⟨d, hd⟩ : ∃ d, tln g = d + 1 := ⟨tln g - 1, by omega⟩
  have hdg : d < g.length := by omega
  have hdg2 : d < (g.map em16).length := by omega
  have htop : g[d] ≠ 0 := by rw [← co_get g hdg]; exact tln_top g d hd
  have hgd : (g.map em16)[d] = em16 g[d] := List.getElem_map ..
  have hgD : Dg (co g) (d + 1) := by rw [← hd]; exact tln_dg g
  refine X_call0 ((culletref04_Degree_spec w s2 (g.map em16) h2 (by omega)).mono ?_)
  rintro _ w ⟨rfl, rfl⟩
  rw [tln_em16x, hd, show ((d + 1 : Nat) : Int) - 1 = (d : Int) by omega]
  simp (maxSteps := 1000000) (disch := omega) only [WS, List.getElem_cons_zero, List.getElem_cons_succ, Option.isNone_some, Option.isNone_none, List.getD_cons_zero, List.getD_cons_succ, I.at, atL, atO, atP, evp, evs, retV, ↓reduceIte, Nat.reduceEqDiff, reduceCtorEq, AS, h2.Xix hdg2, h2.Xld hdg2, hgd, cell_e16]
  refine X_call0 ((culletref04_inverse_w_spec w g[d] htop).mono ?_)
  rintro _ w ⟨rfl, rfl⟩
  obtain ⟨c0, hc0⟩ : ∃ c0, g[d].inv = c0 := ⟨_, rfl⟩
  have hgc : g[d] * c0 = 1 := by rw [← hc0]; exact El.mul_inv _ htop
  rw [hc0]
  simp (maxSteps := 1000000) (disch := omega) only [WS, List.getElem_cons_zero, List.getElem_cons_succ, Option.isNone_some, Option.isNone_none, List.getD_cons_zero, List.getD_cons_succ, I.at, atL, atO, atP, evp, evs, retV, ↓reduceIte, Nat.reduceEqDiff, reduceCtorEq, AS]
  refine X_call0 ((culletref04_Trim_spec w s1 (f.map em16) h1 (by omega)).mono ?_)
  rintro sm w1 ⟨om, hB⟩
  rw [tr_em16] at om
  have lm : (tr f).length = tln f := tr_len f
  have lmm : ((tr f).map em16).length = tln f := by rw [List.length_map, lm]
  have cm : co (tr f) = co f := tr_co f
  generalize tr f = m0 at om lm lmm cm
  obtain ⟨N, hN⟩ : ∃ N, tln f = N := ⟨_, rfl⟩
  rw [hN] at lm lmm hfl
  have B := hB
  clear hB
  simp (maxSteps := 1000000) (disch := omega) only [WS, List.getElem_cons_zero, List.getElem_cons_succ, Option.isNone_some, Option.isNone_none, List.getD_cons_zero, List.getD_cons_succ, I.at, atL, atO, atP, evp, evs, retV, ↓reduceIte, Nat.reduceEqDiff, reduceCtorEq, AS, om.sl.Xlen, lmm]
  refine X_mks (x := (0 : El 16)) (by simp only [maxBytes]; omega) (by omega) fun sq w2 oq hB => ?_
  obtain ⟨W1, hW1⟩ : ∃ W1, w1.heap.size = W1 := ⟨_, rfl⟩
  have hne : ∀ b, Fw.blk sm = some b → Fw.blk sq ≠ some b := fun b hb e => by have := (om.blk b hb).2; have := (oq.blk b e).1; omega
  have hne2 : Fw.blk sq ≠ Fw.blk sm ∨ m0 = [] := by
    by_cases hz : m0 = []
    · exact Or.inr hz
    · left
      intro e
      obtain ⟨b, hb, -⟩ := om.sl.blk_lt (by simpa using hz)
      exact hne b hb (e.trans hb)
  have hz : List.replicate N (0 : El 16) = (List.replicate N (0 : El 16)).map em16 := by rw [List.map_replicate]; rfl
  rw [hz] at oq
  have oq := oq.mono B.size
  have om := om.up hB
  have B := B.trans (hB.mono B.size)
  clear hB
  have e0 : IntKind.i64.wrap ((N : Int) - 1) = (N : Int) - 1 := wrap_id (by omega) (by omega)
  simp (maxSteps := 1000000) only [WS, List.getElem_cons_zero, List.getElem_cons_succ, Option.isNone_some, Option.isNone_none, List.getD_cons_zero, List.getD_cons_succ, I.at, atL, atO, atP, evp, evs, retV, ↓reduceIte, Nat.reduceEqDiff, reduceCtorEq, om.sl.Xlen, lmm, e0]
  refine loop_of (fun t w' => t 0 = .bool true ∧ t 2 = s2 ∧ t 8 = .int .i64 (d : Int) ∧ t 9 = .int .u16 ((em16 c0).v.toNat : Int) ∧ t 10 = sm ∧ t 11 = sq ∧ RowKit.Below w.heap.size w w' ∧ ∃ (k : Nat) (q m : List (El 16)), t 12 = .int .i64 ((k : Int) - 1) ∧ k ≤ N ∧ Ow w.heap.size w' sq (q.map em16) ∧ Ow w.heap.size w' sm (m.map em16) ∧ q.length = N ∧ m.length = N ∧
      co f = co q * co g + co m ∧ Dg (co m) k ∧ (∀ u, u + d < k → (co q).c u = 0) ∧ (N ≤ d → ∀ u, (co q).c u = 0)) (fun t _ => (toI (t 12) + 1).toNat)
    ⟨by simp only [WS, List.getElem_cons_zero, List.getElem_cons_succ, Option.isNone_some, Option.isNone_none, List.getD_cons_zero, List.getD_cons_succ, I.at, atL, atO, atP, evp, evs, retV, ↓reduceIte, Nat.reduceEqDiff, reduceCtorEq], by simp only [WS, List.getElem_cons_zero, List.getElem_cons_succ, Option.isNone_some, Option.isNone_none, List.getD_cons_zero, List.getD_cons_succ, I.at, atL, atO, atP, evp, evs, retV, ↓reduceIte, Nat.reduceEqDiff, reduceCtorEq], by simp only [WS, List.getElem_cons_zero, List.getElem_cons_succ, Option.isNone_some, Option.isNone_none, List.getD_cons_zero, List.getD_cons_succ, I.at, atL, atO, atP, evp, evs, retV, ↓reduceIte, Nat.reduceEqDiff, reduceCtorEq], by simp only [WS, List.getElem_cons_zero, List.getElem_cons_succ, Option.isNone_some, Option.isNone_none, List.getD_cons_zero, List.getD_cons_succ, I.at, atL, atO, atP, evp, evs, retV, ↓reduceIte, Nat.reduceEqDiff, reduceCtorEq], by simp only [WS, List.getElem_cons_zero, List.getElem_cons_succ, Option.isNone_some, Option.isNone_none, List.getD_cons_zero, List.getD_cons_succ, I.at, atL, atO, atP, evp, evs, retV, ↓reduceIte, Nat.reduceEqDiff, reduceCtorEq], by simp only [WS, List.getElem_cons_zero, List.getElem_cons_succ, Option.isNone_some, Option.isNone_none, List.getD_cons_zero, List.getD_cons_succ, I.at, atL, atO, atP, evp, evs, retV, ↓reduceIte, Nat.reduceEqDiff, reduceCtorEq], B, N, List.replicate N 0, m0, rfl, by omega, oq, om, List.length_replicate .., lm, by rw [co_replicate, Ps.zero_mul, Ps.zero_add, cm], by rw [cm, ← hN]; exact tln_dg f, fun u _ => by rw [co_replicate]; rfl, fun _ u => by rw [co_replicate]; rfl⟩ ?_
  clear B om oq cm lm lmm hz
  rintro t w3 ⟨t0, t2, t8, t9, t10, t11, B, k, q, m, t12, hk, oq, om, ql, ml, hco, hmk, hq0, hqz⟩
  have hmq : (q.map em16).length = N := by rw [List.length_map, ql]
  have hmm : (m.map em16).length = N := by rw [List.length_map, ml]
  by_cases hkd : d + 1 ≤ k
  · obtain ⟨i, rfl⟩ : ∃ i, k = i + 1 := ⟨k - 1, by omega⟩
    have hti : ((i + 1 : Nat) : Int) - 1 = (i : Int) := by omega
    rw [hti] at t12
    have im : i < m.length := by omega
    have imm : i < (m.map em16).length := by omega
    have iq : i - d < q.length := by omega
    have iqm : i - d < (q.map em16).length := by omega
    have hgm : (m.map em16)[i] = em16 m[i] := List.getElem_map ..
    simp (maxSteps := 1000000) (disch := omega) only [WS, List.getElem_cons_zero, List.getElem_cons_succ, Option.isNone_some, Option.isNone_none, List.getD_cons_zero, List.getD_cons_succ, I.at, atL, atO, atP, evp, evs, retV, ↓reduceIte, Nat.reduceEqDiff, reduceCtorEq, AS, t0, t2, t8, t9, t10, t11, t12, om.sl.Xix imm, om.sl.Xld imm, hgm, cell_e16]
    refine X_call0 ((culletref04_timesx_w_spec w3 m[i] c0).mono ?_)
    rintro _ w4 ⟨rfl, rfl⟩
    obtain ⟨c, hc⟩ : ∃ c, m[i] * c0 = c := ⟨_, rfl⟩
    rw [hc]
    simp (maxSteps := 1000000) (disch := omega) only [WS, List.getElem_cons_zero, List.getElem_cons_succ, Option.isNone_some, Option.isNone_none, List.getD_cons_zero, List.getD_cons_succ, I.at, atL, atO, atP, evp, evs, retV, ↓reduceIte, Nat.reduceEqDiff, reduceCtorEq, AS, t0, t2, t8, t9, t10, t11, t12, oq.sl.Xix iqm]
    refine oq.Xst iqm (em16 c) fun w5 oq5 hg5 => ?_
    rw [← List.map_set] at oq5
    have B5 := B.grown hg5 B.size fun b hb => (oq.blk b hb).1
    have om5 : Ow w.heap.size w5 sm (m.map em16) := om.keep (keep_grown hg5) fun b hb e => hne b hb e
    have hcq : ∀ u, (co (q.set (i - d) c)).c u = if u = i - d then c else (co q).c u := fun u => co_set q iq c u
    have hqi : (co q).c (i - d) = 0 := hq0 (i - d) (by omega)
    have hcq2 : co (q.set (i - d) c) = co q + Ps.mono (i - d) c := Ps.ext fun u => by
      rw [hcq u, Ps.add_c]
      show _ = (co q).c u + if u = i - d then c else 0
      by_cases hu : u = i - d
      · rw [if_pos hu, if_pos hu, hu, hqi, El.zero_add]
      · rw [if_neg hu, if_neg hu, El.add_zero]
    have lq5 : (q.set (i - d) c).length = N := by simpa using ql
    have hq5 : ∀ u, u + d < i → (co (q.set (i - d) c)).c u = 0 := fun u hu => by rw [hcq u, if_neg (by omega), hq0 u (by omega)]
    generalize q.set (i - d) c = q5 at oq5 hcq2 lq5 hq5
    clear om oq B hcq
    simp (maxSteps := 1000000) (disch := omega) only [WS, List.getElem_cons_zero, List.getElem_cons_succ, Option.isNone_some, Option.isNone_none, List.getD_cons_zero, List.getD_cons_succ, I.at, atL, atO, atP, evp, evs, retV, ↓reduceIte, Nat.reduceEqDiff, reduceCtorEq, AS, t0, t2, t8, t9, t10, t11, t12]
    refine loop_of (fun t w' => t 0 = .bool true ∧ t 2 = s2 ∧ t 8 = .int .i64 (d : Int) ∧ t 9 = .int .u16 ((em16 c0).v.toNat : Int) ∧ t 10 = sm ∧ t 11 = sq ∧ t 12 = .int .i64 (i : Int) ∧ t 13 = .int .u16 ((em16 c).v.toNat : Int) ∧ RowKit.Below w.heap.size w w' ∧ Ow w.heap.size w' sq (q5.map em16) ∧ ∃ (j : Nat) (n : List (El 16)), t 14 = .int .i64 (j : Int) ∧ j ≤ d + 1 ∧ Ow w.heap.size w' sm (n.map em16) ∧ n.length = N ∧
        ∀ u, (co n).c u = (co m).c u + (if i - d ≤ u ∧ u < i - d + j then c * (co g).c (u - (i - d)) else 0)) (fun t _ => d + 1 - (toI (t 14)).toNat)
      ⟨by simp only [WS, List.getElem_cons_zero, List.getElem_cons_succ, Option.isNone_some, Option.isNone_none, List.getD_cons_zero, List.getD_cons_succ, I.at, atL, atO, atP, evp, evs, retV, ↓reduceIte, Nat.reduceEqDiff, reduceCtorEq]; exact t0, by simp only [WS, List.getElem_cons_zero, List.getElem_cons_succ, Option.isNone_some, Option.isNone_none, List.getD_cons_zero, List.getD_cons_succ, I.at, atL, atO, atP, evp, evs, retV, ↓reduceIte, Nat.reduceEqDiff, reduceCtorEq]; exact t2, by simp only [WS, List.getElem_cons_zero, List.getElem_cons_succ, Option.isNone_some, Option.isNone_none, List.getD_cons_zero, List.getD_cons_succ, I.at, atL, atO, atP, evp, evs, retV, ↓reduceIte, Nat.reduceEqDiff, reduceCtorEq]; exact t8, by simp only [WS, List.getElem_cons_zero, List.getElem_cons_succ, Option.isNone_some, Option.isNone_none, List.getD_cons_zero, List.getD_cons_succ, I.at, atL, atO, atP, evp, evs, retV, ↓reduceIte, Nat.reduceEqDiff, reduceCtorEq]; exact t9, by simp only [WS, List.getElem_cons_zero, List.getElem_cons_succ, Option.isNone_some, Option.isNone_none, List.getD_cons_zero, List.getD_cons_succ, I.at, atL, atO, atP, evp, evs, retV, ↓reduceIte, Nat.reduceEqDiff, reduceCtorEq]; exact t10, by simp only [WS, List.getElem_cons_zero, List.getElem_cons_succ, Option.isNone_some, Option.isNone_none, List.getD_cons_zero, List.getD_cons_succ, I.at, atL, atO, atP, evp, evs, retV, ↓reduceIte, Nat.reduceEqDiff, reduceCtorEq]; exact t11, by simp only [WS, List.getElem_cons_zero, List.getElem_cons_succ, Option.isNone_some, Option.isNone_none, List.getD_cons_zero, List.getD_cons_succ, I.at, atL, atO, atP, evp, evs, retV, ↓reduceIte, Nat.reduceEqDiff, reduceCtorEq]; exact t12, by simp only [WS, List.getElem_cons_zero, List.getElem_cons_succ, Option.isNone_some, Option.isNone_none, List.getD_cons_zero, List.getD_cons_succ, I.at, atL, atO, atP, evp, evs, retV, ↓reduceIte, Nat.reduceEqDiff, reduceCtorEq], B5, oq5, 0, m, rfl, by omega, om5, ml, fun u => by rw [if_neg (by omega), El.add_zero]⟩ ?_
    clear t0 t2 t8 t9 t10 t11 t12 B5 oq5 om5
    rintro t w6 ⟨t0, t2, t8, t9, t10, t11, t12, t13, B, oq, j, n, t14, hj, om, nl, nc⟩
    have ew : IntKind.i64.wrap ((i : Int) - 1) = (i : Int) - 1 := wrap_id (by omega) (by omega)
    have fin : (∀ hn : co n = co m + Ps.mono (i - d) c * co g, co f = co q5 * co g + co n ∧ Dg (co n) i) := fun hn => by
      refine ⟨?_, fun u hu => ?_⟩
      · rw [hn, hcq2, Ps.add_mul, hco]
        generalize Ps.mono (i - d) c * co g = X
        generalize co q * co g = Y
        rw [show Y + X + (co m + X) = Y + co m + (X + X) by ac_rfl, Ps.add_self, Ps.add_zero]
      · rw [hn, Ps.add_c, Ps.mono_mul, if_pos (by omega)]
        by_cases hui : u = i
        · subst hui
          rw [show u - (u - d) = d by omega, co_get g hdg, co_get m im, ← hc, show m[u] * c0 * g[d] = m[u] * (g[d] * c0) by ac_rfl, hgc, El.mul_one, El.add_self]
        · rw [hmk u (by omega), hgD _ (by omega), El.mul_zero, El.add_zero]
    have hiz : N ≤ d → ∀ u, (co q5).c u = 0 := fun h => by omega
    by_cases hz : c = 0
    · have d1 : (!decide (((em16 c).v.toNat : Int) = 0)) = false := by rw [decide_eq_true ((em16_wz c).mpr hz)]; rfl
      have hn : co n = co m + Ps.mono (i - d) c * co g := by
        rw [hz, mono_zero, Ps.zero_mul, Ps.add_zero]
        refine Ps.ext fun u => ?_
        rw [nc u, hz]
        split
        · rw [El.zero_mul, El.add_zero]
        · rw [El.add_zero]
      obtain ⟨f1, f2⟩ := fin hn
      by_cases hjd : j ≤ d
      · simp (maxSteps := 1000000) (disch := omega) only [WS, List.getElem_cons_zero, List.getElem_cons_succ, Option.isNone_some, Option.isNone_none, List.getD_cons_zero, List.getD_cons_succ, I.at, atL, atO, atP, evp, evs, retV, ↓reduceIte, Nat.reduceEqDiff, reduceCtorEq, decide_eq_true, t0, t2, t8, t9, t10, t11, t12, t13, t14, d1, ew, toI_int]
        exact ⟨⟨B, i, q5, n, rfl, by omega, oq, om, lq5, nl, f1, f2, hq5, hiz⟩, by omega⟩
      · simp (maxSteps := 1000000) (disch := omega) only [WS, List.getElem_cons_zero, List.getElem_cons_succ, Option.isNone_some, Option.isNone_none, List.getD_cons_zero, List.getD_cons_succ, I.at, atL, atO, atP, evp, evs, retV, ↓reduceIte, Nat.reduceEqDiff, reduceCtorEq, decide_eq_false, t0, t2, t8, t9, t10, t11, t12, t13, t14, d1, ew, toI_int]
        exact ⟨⟨B, i, q5, n, rfl, by omega, oq, om, lq5, nl, f1, f2, hq5, hiz⟩, by omega⟩
    have d1 : (!decide (((em16 c).v.toNat : Int) = 0)) = true := by rw [decide_eq_false (fun e => hz ((em16_wz c).mp e))]; rfl
    by_cases hjd : j ≤ d
    · have hin : i - d + j < n.length := by omega
      have hinm : i - d + j < (n.map em16).length := by rw [List.length_map]; exact hin
      have hjg : j < g.length := by omega
      have hjgm : j < (g.map em16).length := by omega
      have hgn : (n.map em16)[i - d + j] = em16 n[i - d + j] := List.getElem_map ..
      have hgj : (g.map em16)[j] = em16 g[j] := List.getElem_map ..
      have g2 := h2.up B
      simp (maxSteps := 1000000) (disch := omega) only [WS, List.getElem_cons_zero, List.getElem_cons_succ, Option.isNone_some, Option.isNone_none, List.getD_cons_zero, List.getD_cons_succ, I.at, atL, atO, atP, evp, evs, retV, ↓reduceIte, Nat.reduceEqDiff, reduceCtorEq, AS, t0, t2, t8, t9, t10, t11, t12, t13, t14, d1]
      refine WP_dops ?_
      have omd := om.sl.drew
      have g2d := g2.drew
      have see : Fw.sees Tryz.prog (.ld (.c (elP sm (i - d + j)))) w6.drew (.int .u16 ((em16 n[i - d + j]).v.toNat : Int)) = True := by rw [← hgn]; exact omd.sees hinm Tryz.prog
      have see2 : Fw.sees Tryz.prog (.ld (.c (elP s2 j))) w6.drew (.int .u16 ((em16 g[j]).v.toNat : Int)) = True := by rw [← hgj]; exact g2d.sees hjgm Tryz.prog
      simp (maxSteps := 1000000) (disch := omega) only [ES, List.mem_cons, List.not_mem_nil, implies_true, forall_const, WS, List.getElem_cons_zero, List.getElem_cons_succ, Option.isNone_some, Option.isNone_none, List.getD_cons_zero, List.getD_cons_succ, I.at, atL, atO, atP, evp, evs, retV, ↓reduceIte, Nat.reduceEqDiff, reduceCtorEq, AS, t0, t2, t8, t9, t10, t11, t12, t13, t14, omd.Eix hinm, omd.Eld hinm, g2d.Eix hjgm, g2d.Eld hjgm, hgn, hgj, cell_e16]
      refine E_call0 ((culletref04_timesx_w_spec w6.drew c g[j]).mono ?_)
      rintro _ w7 ⟨rfl, rfl⟩
      simp (maxSteps := 1000000) (disch := omega) only [ES, List.mem_cons, List.not_mem_nil, implies_true, forall_const, WS, List.getElem_cons_zero, List.getElem_cons_succ, Option.isNone_some, Option.isNone_none, List.getD_cons_zero, List.getD_cons_succ, I.at, atL, atO, atP, evp, evs, retV, ↓reduceIte, Nat.reduceEqDiff, reduceCtorEq, AS, see, see2, xor16, em16_add, t0, t2, t8, t9, t10, t11, t12, t13, t14, omd.Eix hinm]
      refine Ow.Est om.drew hinm (em16 (n[i - d + j] + c * g[j])) fun w8 om8 hg8 => ?_
      rw [← List.map_set] at om8
      have hgd8 := grown_of_drew hg8
      have oq8 : Ow w.heap.size w8 sq (q5.map em16) := oq.keep (keep_grown hgd8) fun b hb e => by
        exact hne b e hb
      simp (maxSteps := 1000000) (disch := omega) only [ES, List.mem_cons, List.not_mem_nil, implies_true, forall_const, WS, List.getElem_cons_zero, List.getElem_cons_succ, Option.isNone_some, Option.isNone_none, List.getD_cons_zero, List.getD_cons_succ, I.at, atL, atO, atP, evp, evs, retV, ↓reduceIte, Nat.reduceEqDiff, reduceCtorEq, AS, t0, t2, t8, t9, t10, t11, t12, t13, t14]
      refine ⟨⟨B.grown hgd8 B.size fun b hb => (om.blk b hb).1, oq8, j + 1, _, rfl, by omega, om8, by simpa using nl, fun u => ?_⟩, by omega⟩
      rw [co_set _ hin, nc u]
      by_cases hu : u = i - d + j
      · subst hu
        rw [if_pos rfl, if_pos ⟨by omega, by omega⟩, ← co_get n hin, nc, if_neg (by omega), El.add_zero, show i - d + j - (i - d) = j by omega, co_get g hjg]
      · rw [if_neg hu]
        have : (i - d ≤ u ∧ u < i - d + (j + 1)) = (i - d ≤ u ∧ u < i - d + j) := propext ⟨fun h => by omega, fun h => by omega⟩
        simp only [this]
    · obtain rfl : j = d + 1 := by omega
      have hn : co n = co m + Ps.mono (i - d) c * co g := Ps.ext fun u => by
        rw [nc u, Ps.add_c, Ps.mono_mul]
        congr 1
        by_cases hu : i - d ≤ u
        · rw [if_pos hu]
          by_cases hu2 : u < i - d + (d + 1)
          · rw [if_pos ⟨hu, hu2⟩]
          · rw [if_neg (by omega), hgD _ (by omega), El.mul_zero]
        · rw [if_neg (by omega), if_neg hu]
      obtain ⟨f1, f2⟩ := fin hn
      simp (maxSteps := 1000000) (disch := omega) only [WS, List.getElem_cons_zero, List.getElem_cons_succ, Option.isNone_some, Option.isNone_none, List.getD_cons_zero, List.getD_cons_succ, I.at, atL, atO, atP, evp, evs, retV, ↓reduceIte, Nat.reduceEqDiff, reduceCtorEq, decide_eq_false, t0, t2, t8, t9, t10, t11, t12, t13, t14, d1, ew, toI_int]
      exact ⟨⟨B, i, q5, n, rfl, by omega, oq, om, lq5, nl, f1, f2, hq5, hiz⟩, by omega⟩
  · have hlt : ¬ ((d : Int) ≤ (k : Int) - 1) := by omega
    simp (maxSteps := 1000000) (disch := omega) only [WS, List.getElem_cons_zero, List.getElem_cons_succ, Option.isNone_some, Option.isNone_none, List.getD_cons_zero, List.getD_cons_succ, I.at, atL, atO, atP, evp, evs, retV, ↓reduceIte, Nat.reduceEqDiff, reduceCtorEq, AS, t0, t2, t8, t9, t10, t11, t12, decide_eq_false hlt]
    refine X_call0 ((culletref04_Trim_spec w3 sq (q.map em16) oq.sl (by omega)).mono ?_)
    rintro sq2 w4 ⟨oq2, hB⟩
    rw [tr_em16] at oq2
    have oq2 := oq2.mono B.size
    have om := om.up hB
    have B := B.trans (hB.mono B.size)
    clear hB
    simp (maxSteps := 1000000) (disch := omega) only [WS, List.getElem_cons_zero, List.getElem_cons_succ, Option.isNone_some, Option.isNone_none, List.getD_cons_zero, List.getD_cons_succ, I.at, atL, atO, atP, evp, evs, retV, ↓reduceIte, Nat.reduceEqDiff, reduceCtorEq, AS, t0, t2, t8, t9, t10, t11, t12]
    refine X_call0 ((culletref04_Trim_spec w4 sm (m.map em16) om.sl (by omega)).mono ?_)
    rintro sm2 w5 ⟨om2, hB⟩
    rw [tr_em16] at om2
    have om2 := om2.mono B.size
    have oq2 := oq2.up hB
    have B := B.trans (hB.mono B.size)
    clear hB
    simp (maxSteps := 1000000) (disch := omega) only [WS, List.getElem_cons_zero, List.getElem_cons_succ, Option.isNone_some, Option.isNone_none, List.getD_cons_zero, List.getD_cons_succ, I.at, atL, atO, atP, evp, evs, retV, ↓reduceIte, Nat.reduceEqDiff, reduceCtorEq, AS]
    have hmd : tln m ≤ d := tln_dg_le (hmk.mono (by omega))
    have h3 := tln_le m
    have h4 := tln_le q
    exact ⟨sq2, sm2, tr q, tr m, rfl, oq2, om2, tr_tr q, tr_tr m, by rw [tr_co, tr_co, hco], by rw [tr_len]; omega, by rw [tr_len]; omega, by rw [tr_len]; omega, B⟩
end Go.Proofs.YtcdagkcchfibjaaGreat.Fw

namespace Go.Proofs.YtcdagkcchfibjaaGreat.Fw
open Go Go.Fw
theorem culletref04_divide_b_spec (w : World) (s1 s2 : Value) (f g : List (El 8)) (h1 : Sl w s1 (f.map em8)) (h2 : Sl w s2 (g.map em8)) (hb1 : f.length ≤ 2097152) (hb2 : g.length ≤ 2097152) (hg0 : tln g ≠ 0) :
    CallV Tryz.prog 73 [.bool false, s1, s2] w fun v w' => ∃ (sq sm : Value) (q m : List (El 8)), v = .tuple #[sq, sm] ∧ Ow w.heap.size w' sq (q.map em8) ∧ Ow w.heap.size w' sm (m.map em8) ∧ tr q = q ∧ tr m = m ∧ co f = co q * co g + co m ∧ m.length < tln g ∧ m.length ≤ f.length ∧ q.length ≤ f.length ∧ RowKit.Below w.heap.size w w' := by
  refine run_culletref04_divide (by simp) ?_
  simp only [c_culletref04_divide, WS, List.getElem_cons_zero, List.getElem_cons_succ, Option.isNone_some, Option.isNone_none, List.getD_cons_zero, List.getD_cons_succ, I.at, atL, atO, atP, evp, evs, retV, ↓reduceIte, Nat.reduceEqDiff, reduceCtorEq]
  have hm1 : (f.map em8).length = f.length := List.length_map ..
  have hm2 : (g.map em8).length = g.length := List.length_map ..
  have hgl := tln_le g
  have hfl := tln_le f
  obtain ⟨d, hd⟩ : ∃ d, tln g = d + 1 := ⟨tln g - 1, by omega⟩
  have hdg : d < g.length := by omega
  have hdg2 : d < (g.map em8).length := by omega
  have htop : g[d] ≠ 0 := by rw [← co_get g hdg]; exact tln_top g d hd
  have hgd : (g.map em8)[d] = em8 g[d] := List.getElem_map ..
  have hgD : Dg (co g) (d + 1) := by rw [← hd]; exact tln_dg g
  refine X_call0 ((culletref04_Degree_spec w s2 (g.map em8) h2 (by omega)).mono ?_)
  rintro _ w ⟨rfl, rfl⟩
  rw [tln_em8x, hd, show ((d + 1 : Nat) : Int) - 1 = (d : Int) by omega]
  simp (maxSteps := 1000000) (disch := omega) only [WS, List.getElem_cons_zero, List.getElem_cons_succ, Option.isNone_some, Option.isNone_none, List.getD_cons_zero, List.getD_cons_succ, I.at, atL, atO, atP, evp, evs, retV, ↓reduceIte, Nat.reduceEqDiff, reduceCtorEq, AS, h2.Xix hdg2, h2.Xld hdg2, hgd, cell_e16]
  refine X_call0 ((culletref04_inverse_b_spec w g[d] htop).mono ?_)
  rintro _ w ⟨rfl, rfl⟩
  obtain ⟨c0, hc0⟩ : ∃ c0, g[d].inv = c0 := ⟨_, rfl⟩
  have hgc : g[d] * c0 = 1 := by rw [← hc0]; exact El.mul_inv _ htop
  rw [hc0]
  simp (maxSteps := 1000000) (disch := omega) only [WS, List.getElem_cons_zero, List.getElem_cons_succ, Option.isNone_some, Option.isNone_none, List.getD_cons_zero, List.getD_cons_succ, I.at, atL, atO, atP, evp, evs, retV, ↓reduceIte, Nat.reduceEqDiff, reduceCtorEq, AS]
  refine X_call0 ((culletref04_Trim_spec w s1 (f.map em8) h1 (by omega)).mono ?_)
  rintro sm w1 ⟨om, hB⟩
  rw [tr_em8] at om
  have lm : (tr f).length = tln f := tr_len f
  have lmm : ((tr f).map em8).length = tln f := by rw [List.length_map, lm]
  have cm : co (tr f) = co f := tr_co f
  generalize tr f = m0 at om lm lmm cm
  obtain ⟨N, hN⟩ : ∃ N, tln f = N := ⟨_, rfl⟩
  rw [hN] at lm lmm hfl
  have B := hB
  clear hB
  simp (maxSteps := 1000000) (disch := omega) only [WS, List.getElem_cons_zero, List.getElem_cons_succ, Option.isNone_some, Option.isNone_none, List.getD_cons_zero, List.getD_cons_succ, I.at, atL, atO, atP, evp, evs, retV, ↓reduceIte, Nat.reduceEqDiff, reduceCtorEq, AS, om.sl.Xlen, lmm]
  refine X_mks (x := (0 : El 16)) (by simp only [maxBytes]; omega) (by omega) fun sq w2 oq hB => ?_
  obtain ⟨W1, hW1⟩ : ∃ W1, w1.heap.size = W1 := ⟨_, rfl⟩
  have hne : ∀ b, Fw.blk sm = some b → Fw.blk sq ≠ some b := fun b hb e => by have := (om.blk b hb).2; have := (oq.blk b e).1; omega
  have hne2 : Fw.blk sq ≠ Fw.blk sm ∨ m0 = [] := by
    by_cases hz : m0 = []
    · exact Or.inr hz
    · left
      intro e
      obtain ⟨b, hb, -⟩ := om.sl.blk_lt (by simpa using hz)
      exact hne b hb (e.trans hb)
  have hz : List.replicate N (0 : El 16) = (List.replicate N (0 : El 8)).map em8 := by rw [List.map_replicate]; rfl
  rw [hz] at oq
  have oq := oq.mono B.size
  have om := om.up hB
  have B := B.trans (hB.mono B.size)
  clear hB
  have e0 : IntKind.i64.wrap ((N : Int) - 1) = (N : Int) - 1 := wrap_id (by omega) (by omega)
  simp (maxSteps := 1000000) only [WS, List.getElem_cons_zero, List.getElem_cons_succ, Option.isNone_some, Option.isNone_none, List.getD_cons_zero, List.getD_cons_succ, I.at, atL, atO, atP, evp, evs, retV, ↓reduceIte, Nat.reduceEqDiff, reduceCtorEq, om.sl.Xlen, lmm, e0]
  refine loop_of (fun t w' => t 0 = .bool false ∧ t 2 = s2 ∧ t 8 = .int .i64 (d : Int) ∧ t 9 = .int .u16 ((em8 c0).v.toNat : Int) ∧ t 10 = sm ∧ t 11 = sq ∧ RowKit.Below w.heap.size w w' ∧ ∃ (k : Nat) (q m : List (El 8)), t 12 = .int .i64 ((k : Int) - 1) ∧ k ≤ N ∧ Ow w.heap.size w' sq (q.map em8) ∧ Ow w.heap.size w' sm (m.map em8) ∧ q.length = N ∧ m.length = N ∧
      co f = co q * co g + co m ∧ Dg (co m) k ∧ (∀ u, u + d < k → (co q).c u = 0) ∧ (N ≤ d → ∀ u, (co q).c u = 0)) (fun t _ => (toI (t 12) + 1).toNat)
    ⟨by simp only [WS, List.getElem_cons_zero, List.getElem_cons_succ, Option.isNone_some, Option.isNone_none, List.getD_cons_zero, List.getD_cons_succ, I.at, atL, atO, atP, evp, evs, retV, ↓reduceIte, Nat.reduceEqDiff, reduceCtorEq], by simp only [WS, List.getElem_cons_zero, List.getElem_cons_succ, Option.isNone_some, Option.isNone_none, List.getD_cons_zero, List.getD_cons_succ, I.at, atL, atO, atP, evp, evs, retV, ↓reduceIte, Nat.reduceEqDiff, reduceCtorEq], by simp only [WS, List.getElem_cons_zero, List.getElem_cons_succ, Option.isNone_some, Option.isNone_none, List.getD_cons_zero, List.getD_cons_succ, I.at, atL, atO, atP, evp, evs, retV, ↓reduceIte, Nat.reduceEqDiff, reduceCtorEq], by simp only [WS, List.getElem_cons_zero, List.getElem_cons_succ, Option.isNone_some, Option.isNone_none, List.getD_cons_zero, List.getD_cons_succ, I.at, atL, atO, atP, evp, evs, retV, ↓reduceIte, Nat.reduceEqDiff, reduceCtorEq], by simp only [WS, List.getElem_cons_zero, List.getElem_cons_succ, Option.isNone_some, Option.isNone_none, List.getD_cons_zero, List.getD_cons_succ, I.at, atL, atO, atP, evp, evs, retV, ↓reduceIte, Nat.reduceEqDiff, reduceCtorEq], by simp only [WS, List.getElem_cons_zero, List.getElem_cons_succ, Option.isNone_some, Option.isNone_none, List.getD_cons_zero, List.getD_cons_succ, I.at, atL, atO, atP, evp, evs, retV, ↓reduceIte, Nat.reduceEqDiff, reduceCtorEq], B, N, List.replicate N 0, m0, rfl, by omega, oq, om, List.length_replicate .., lm, by rw [co_replicate, Ps.zero_mul, Ps.zero_add, cm], by rw [cm, ← hN]; exact tln_dg f, fun u _ => by rw [co_replicate]; rfl, fun _ u => by rw [co_replicate]; rfl⟩ ?_
  clear B om oq cm lm lmm hz
  rintro t w3 ⟨t0, t2, t8, t9, t10, t11, B, k, q, m, t12, hk, oq, om, ql, ml, hco, hmk, hq0, hqz⟩
  have hmq : (q.map em8).length = N := by rw [List.length_map, ql]
  have hmm : (m.map em8).length = N := by rw [List.length_map, ml]
  by_cases hkd : d + 1 ≤ k
  · obtain ⟨i, rfl⟩ : ∃ i, k = i + 1 := ⟨k - 1, by omega⟩
    have hti : ((i + 1 : Nat) : Int) - 1 = (i : Int) := by omega
    rw [hti] at t12
    have im : i < m.length := by omega
    have imm : i < (m.map em8).length := by omega
    have iq : i - d < q.length := by omega
    have iqm : i - d < (q.map em8).length := by omega
    have hgm : (m.map em8)[i] = em8 m[i] := List.getElem_map ..
    simp (maxSteps := 1000000) (disch := omega) only [WS, List.getElem_cons_zero, List.getElem_cons_succ, Option.isNone_some, Option.isNone_none, List.getD_cons_zero, List.getD_cons_succ, I.at, atL, atO, atP, evp, evs, retV, ↓reduceIte, Nat.reduceEqDiff, reduceCtorEq, AS, t0, t2, t8, t9, t10, t11, t12, om.sl.Xix imm, om.sl.Xld imm, hgm, cell_e16]
    refine X_call0 ((culletref04_timesx_b_spec w3 m[i] c0).mono ?_)
    rintro _ w4 ⟨rfl, rfl⟩
    obtain ⟨c, hc⟩ : ∃ c, m[i] * c0 = c := ⟨_, rfl⟩
    rw [hc]
    simp (maxSteps := 1000000) (disch := omega) only [WS, List.getElem_cons_zero, List.getElem_cons_succ, Option.isNone_some, Option.isNone_none, List.getD_cons_zero, List.getD_cons_succ, I.at, atL, atO, atP, evp, evs, retV, ↓reduceIte, Nat.reduceEqDiff, reduceCtorEq, AS, t0, t2, t8, t9, t10, t11, t12, oq.sl.Xix iqm]
    refine oq.Xst iqm (em8 c) fun w5 oq5 hg5 => ?_
    rw [← List.map_set] at oq5
    have B5 := B.grown hg5 B.size fun b hb => (oq.blk b hb).1
    have om5 : Ow w.heap.size w5 sm (m.map em8) := om.keep (keep_grown hg5) fun b hb e => hne b hb e
    have hcq : ∀ u, (co (q.set (i - d) c)).c u = if u = i - d then c else (co q).c u := fun u => co_set q iq c u
    have hqi : (co q).c (i - d) = 0 := hq0 (i - d) (by omega)
    have hcq2 : co (q.set (i - d) c) = co q + Ps.mono (i - d) c := Ps.ext fun u => by
      rw [hcq u, Ps.add_c]
      show _ = (co q).c u + if u = i - d then c else 0
      by_cases hu : u = i - d
      · rw [if_pos hu, if_pos hu, hu, hqi, El.zero_add]
      · rw [if_neg hu, if_neg hu, El.add_zero]
    have lq5 : (q.set (i - d) c).length = N := by simpa using ql
    have hq5 : ∀ u, u + d < i → (co (q.set (i - d) c)).c u = 0 := fun u hu => by rw [hcq u, if_neg (by omega), hq0 u (by omega)]
    generalize q.set (i - d) c = q5 at oq5 hcq2 lq5 hq5
    clear om oq B hcq
    simp (maxSteps := 1000000) (disch := omega) only [WS, List.getElem_cons_zero, List.getElem_cons_succ, Option.isNone_some, Option.isNone_none, List.getD_cons_zero, List.getD_cons_succ, I.at, atL, atO, atP, evp, evs, retV, ↓reduceIte, Nat.reduceEqDiff, reduceCtorEq, AS, t0, t2, t8, t9, t10, t11, t12]
    refine loop_of (fun t w' => t 0 = .bool false ∧ t 2 = s2 ∧ t 8 = .int .i64 (d : Int) ∧ t 9 = .int .u16 ((em8 c0).v.toNat : Int) ∧ t 10 = sm ∧ t 11 = sq ∧ t 12 = .int .i64 (i : Int) ∧ t 13 = .int .u16 ((em8 c).v.toNat : Int) ∧ RowKit.Below w.heap.size w w' ∧ Ow w.heap.size w' sq (q5.map em8) ∧ ∃ (j : Nat) (n : List (El 8)), t 14 = .int .i64 (j : Int) ∧ j ≤ d + 1 ∧ Ow w.heap.size w' sm (n.map em8) ∧ n.length = N ∧
        ∀ u, (co n).c u = (co m).c u + (if i - d ≤ u ∧ u < i - d + j then c * (co g).c (u - (i - d)) else 0)) (fun t _ => d + 1 - (toI (t 14)).toNat)
      ⟨by simp only [WS, List.getElem_cons_zero, List.getElem_cons_succ, Option.isNone_some, Option.isNone_none, List.getD_cons_zero, List.getD_cons_succ, I.at, atL, atO, atP, evp, evs, retV, ↓reduceIte, Nat.reduceEqDiff, reduceCtorEq]; exact t0, by simp only [WS, List.getElem_cons_zero, List.getElem_cons_succ, Option.isNone_some, Option.isNone_none, List.getD_cons_zero, List.getD_cons_succ, I.at, atL, atO, atP, evp, evs, retV, ↓reduceIte, Nat.reduceEqDiff, reduceCtorEq]; exact t2, by simp only [WS, List.getElem_cons_zero, List.getElem_cons_succ, Option.isNone_some, Option.isNone_none, List.getD_cons_zero, List.getD_cons_succ, I.at, atL, atO, atP, evp, evs, retV, ↓reduceIte, Nat.reduceEqDiff, reduceCtorEq]; exact t8, by simp only [WS, List.getElem_cons_zero, List.getElem_cons_succ, Option.isNone_some, Option.isNone_none, List.getD_cons_zero, List.getD_cons_succ, I.at, atL, atO, atP, evp, evs, retV, ↓reduceIte, Nat.reduceEqDiff, reduceCtorEq]; exact t9, by simp only [WS, List.getElem_cons_zero, List.getElem_cons_succ, Option.isNone_some, Option.isNone_none, List.getD_cons_zero, List.getD_cons_succ, I.at, atL, atO, atP, evp, evs, retV, ↓reduceIte, Nat.reduceEqDiff, reduceCtorEq]; exact t10, by simp only [WS, List.getElem_cons_zero, List.getElem_cons_succ, Option.isNone_some, Option.isNone_none, List.getD_cons_zero, List.getD_cons_succ, I.at, atL, atO, atP, evp, evs, retV, ↓reduceIte, Nat.reduceEqDiff, reduceCtorEq]; exact t11, by simp only [WS, List.getElem_cons_zero, List.getElem_cons_succ, Option.isNone_some, Option.isNone_none, List.getD_cons_zero, List.getD_cons_succ, I.at, atL, atO, atP, evp, evs, retV, ↓reduceIte, Nat.reduceEqDiff, reduceCtorEq]; exact t12, by simp only [WS, List.getElem_cons_zero, List.getElem_cons_succ, Option.isNone_some, Option.isNone_none, List.getD_cons_zero, List.getD_cons_succ, I.at, atL, atO, atP, evp, evs, retV, ↓reduceIte, Nat.reduceEqDiff, reduceCtorEq], B5, oq5, 0, m, rfl, by omega, om5, ml, fun u => by rw [if_neg (by omega), El.add_zero]⟩ ?_
    clear t0 t2 t8 t9 t10 t11 t12 B5 oq5 om5
    rintro t w6 ⟨t0, t2, t8, t9, t10, t11, t12, t13, B, oq, j, n, t14, hj, om, nl, nc⟩
    have ew : IntKind.i64.wrap ((i : Int) - 1) = (i : Int) - 1 := wrap_id (by omega) (by omega)
    have fin : (∀ hn : co n = co m + Ps.mono (i - d) c * co g, co f = co q5 * co g + co n ∧ Dg (co n) i) := fun hn => by
      refine ⟨?_, fun u hu => ?_⟩
      · rw [hn, hcq2, Ps.add_mul, hco]
        generalize Ps.mono (i - d) c * co g = X
        generalize co q * co g = Y
        rw [show Y + X + (co m + X) = Y + co m + (X + X) by ac_rfl, Ps.add_self, Ps.add_zero]
      · rw [hn, Ps.add_c, Ps.mono_mul, if_pos (by omega)]
        by_cases hui : u = i
        · subst hui
          rw [show u - (u - d) = d by omega, co_get g hdg, co_get m im, ← hc, show m[u] * c0 * g[d] = m[u] * (g[d] * c0) by ac_rfl, hgc, El.mul_one, El.add_self]
        · rw [hmk u (by omega), hgD _ (by omega), El.mul_zero, El.add_zero]
    have hiz : N ≤ d → ∀ u, (co q5).c u = 0 := fun h => by omega
    by_cases hz : c = 0
    · have d1 : (!decide (((em8 c).v.toNat : Int) = 0)) = false := by rw [decide_eq_true ((em8_wz c).mpr hz)]; rfl
      have hn : co n = co m + Ps.mono (i - d) c * co g := by
        rw [hz, mono_zero, Ps.zero_mul, Ps.add_zero]
        refine Ps.ext fun u => ?_
        rw [nc u, hz]
        split
        · rw [El.zero_mul, El.add_zero]
        · rw [El.add_zero]
      obtain ⟨f1, f2⟩ := fin hn
      by_cases hjd : j ≤ d
      · simp (maxSteps := 1000000) (disch := omega) only [WS, List.getElem_cons_zero, List.getElem_cons_succ, Option.isNone_some, Option.isNone_none, List.getD_cons_zero, List.getD_cons_succ, I.at, atL, atO, atP, evp, evs, retV, ↓reduceIte, Nat.reduceEqDiff, reduceCtorEq, decide_eq_true, t0, t2, t8, t9, t10, t11, t12, t13, t14, d1, ew, toI_int]
        exact ⟨⟨B, i, q5, n, rfl, by omega, oq, om, lq5, nl, f1, f2, hq5, hiz⟩, by omega⟩
      · simp (maxSteps := 1000000) (disch := omega) only [WS, List.getElem_cons_zero, List.getElem_cons_succ, Option.isNone_some, Option.isNone_none, List.getD_cons_zero, List.getD_cons_succ, I.at, atL, atO, atP, evp, evs, retV, ↓reduceIte, Nat.reduceEqDiff, reduceCtorEq, decide_eq_false, t0, t2, t8, t9, t10, t11, t12, t13, t14, d1, ew, toI_int]
        exact ⟨⟨B, i, q5, n, rfl, by omega, oq, om, lq5, nl, f1, f2, hq5, hiz⟩, by omega⟩
    have d1 : (!decide (((em8 c).v.toNat : Int) = 0)) = true := by rw [decide_eq_false (fun e => hz ((em8_wz c).mp e))]; rfl
    by_cases hjd : j ≤ d
    · have hin : i - d + j < n.length := by omega
      have hinm : i - d + j < (n.map em8).length := by rw [List.length_map]; exact hin
      have hjg : j < g.length := by omega
      have hjgm : j < (g.map em8).length := by omega
      have hgn : (n.map em8)[i - d + j] = em8 n[i - d + j] := List.getElem_map ..
      have hgj : (g.map em8)[j] = em8 g[j] := List.getElem_map ..
      have g2 := h2.up B
      simp (maxSteps := 1000000) (disch := omega) only [WS, List.getElem_cons_zero, List.getElem_cons_succ, Option.isNone_some, Option.isNone_none, List.getD_cons_zero, List.getD_cons_succ, I.at, atL, atO, atP, evp, evs, retV, ↓reduceIte, Nat.reduceEqDiff, reduceCtorEq, AS, t0, t2, t8, t9, t10, t11, t12, t13, t14, d1]
      refine WP_dops ?_
      have omd := om.sl.drew
      have g2d := g2.drew
      have see : Fw.sees Tryz.prog (.ld (.c (elP sm (i - d + j)))) w6.drew (.int .u16 ((em8 n[i - d + j]).v.toNat : Int)) = True := by rw [← hgn]; exact omd.sees hinm Tryz.prog
      have see2 : Fw.sees Tryz.prog (.ld (.c (elP s2 j))) w6.drew (.int .u16 ((em8 g[j]).v.toNat : Int)) = True := by rw [← hgj]; exact g2d.sees hjgm Tryz.prog
      simp (maxSteps := 1000000) (disch := omega) only [ES, List.mem_cons, List.not_mem_nil, implies_true, forall_const, WS, List.getElem_cons_zero, List.getElem_cons_succ, Option.isNone_some, Option.isNone_none, List.getD_cons_zero, List.getD_cons_succ, I.at, atL, atO, atP, evp, evs, retV, ↓reduceIte, Nat.reduceEqDiff, reduceCtorEq, AS, t0, t2, t8, t9, t10, t11, t12, t13, t14, omd.Eix hinm, omd.Eld hinm, g2d.Eix hjgm, g2d.Eld hjgm, hgn, hgj, cell_e16]
      refine E_call0 ((culletref04_timesx_b_spec w6.drew c g[j]).mono ?_)
      rintro _ w7 ⟨rfl, rfl⟩
      simp (maxSteps := 1000000) (disch := omega) only [ES, List.mem_cons, List.not_mem_nil, implies_true, forall_const, WS, List.getElem_cons_zero, List.getElem_cons_succ, Option.isNone_some, Option.isNone_none, List.getD_cons_zero, List.getD_cons_succ, I.at, atL, atO, atP, evp, evs, retV, ↓reduceIte, Nat.reduceEqDiff, reduceCtorEq, AS, see, see2, xor16, em8_add, t0, t2, t8, t9, t10, t11, t12, t13, t14, omd.Eix hinm]
      refine Ow.Est om.drew hinm (em8 (n[i - d + j] + c * g[j])) fun w8 om8 hg8 => ?_
      rw [← List.map_set] at om8
      have hgd8 := grown_of_drew hg8
      have oq8 : Ow w.heap.size w8 sq (q5.map em8) := oq.keep (keep_grown hgd8) fun b hb e => by
        exact hne b e hb
      simp (maxSteps := 1000000) (disch := omega) only [ES, List.mem_cons, List.not_mem_nil, implies_true, forall_const, WS, List.getElem_cons_zero, List.getElem_cons_succ, Option.isNone_some, Option.isNone_none, List.getD_cons_zero, List.getD_cons_succ, I.at, atL, atO, atP, evp, evs, retV, ↓reduceIte, Nat.reduceEqDiff, reduceCtorEq, AS, t0, t2, t8, t9, t10, t11, t12, t13, t14]
      refine ⟨⟨B.grown hgd8 B.size fun b hb => (om.blk b hb).1, oq8, j + 1, _, rfl, by omega, om8, by simpa using nl, fun u => ?_⟩, by omega⟩
      rw [co_set _ hin, nc u]
      by_cases hu : u = i - d + j
      · subst hu
        rw [if_pos rfl, if_pos ⟨by omega, by omega⟩, ← co_get n hin, nc, if_neg (by omega), El.add_zero, show i - d + j - (i - d) = j by omega, co_get g hjg]
      · rw [if_neg hu]
        have : (i - d ≤ u ∧ u < i - d + (j + 1)) = (i - d ≤ u ∧ u < i - d + j) := propext ⟨fun h => by omega, fun h => by omega⟩
        simp only [this]
    · obtain rfl : j = d + 1 := by omega
      have hn : co n = co m + Ps.mono (i - d) c * co g := Ps.ext fun u => by
        rw [nc u, Ps.add_c, Ps.mono_mul]
        congr 1
        by_cases hu : i - d ≤ u
        · rw [if_pos hu]
          by_cases hu2 : u < i - d + (d + 1)
          · rw [if_pos ⟨hu, hu2⟩]
          · rw [if_neg (by omega), hgD _ (by omega), El.mul_zero]
        · rw [if_neg (by omega), if_neg hu]
      obtain ⟨f1, f2⟩ := fin hn
      simp (maxSteps := 1000000) (disch := omega) only [WS, List.getElem_cons_zero, List.getElem_cons_succ, Option.isNone_some, Option.isNone_none, List.getD_cons_zero, List.getD_cons_succ, I.at, atL, atO, atP, evp, evs, retV, ↓reduceIte, Nat.reduceEqDiff, reduceCtorEq, decide_eq_false, t0, t2, t8, t9, t10, t11, t12, t13, t14, d1, ew, toI_int]
      exact ⟨⟨B, i, q5, n, rfl, by omega, oq, om, lq5, nl, f1, f2, hq5, hiz⟩, by omega⟩
  · have hlt : ¬ ((d : Int) ≤ (k : Int) - 1) := by omega
    simp (maxSteps := 1000000) (disch := omega) only [WS, List.getElem_cons_zero, List.getElem_cons_succ, Option.isNone_some, Option.isNone_none, List.getD_cons_zero, List.getD_cons_succ, I.at, atL, atO, atP, evp, evs, retV, ↓reduceIte, Nat.reduceEqDiff, reduceCtorEq, AS, t0, t2, t8, t9, t10, t11, t12, decide_eq_false hlt]
    refine X_call0 ((culletref04_Trim_spec w3 sq (q.map em8) oq.sl (by omega)).mono ?_)
    rintro sq2 w4 ⟨oq2, hB⟩
    rw [tr_em8] at oq2
    have oq2 := oq2.mono B.size
    have om := om.up hB
    have B := B.trans (hB.mono B.size)
    clear hB
    simp (maxSteps := 1000000) (disch := omega) only [WS, List.getElem_cons_zero, List.getElem_cons_succ, Option.isNone_some, Option.isNone_none, List.getD_cons_zero, List.getD_cons_succ, I.at, atL, atO, atP, evp, evs, retV, ↓reduceIte, Nat.reduceEqDiff, reduceCtorEq, AS, t0, t2, t8, t9, t10, t11, t12]
    refine X_call0 ((culletref04_Trim_spec w4 sm (m.map em8) om.sl (by omega)).mono ?_)
    rintro sm2 w5 ⟨om2, hB⟩
    rw [tr_em8] at om2
    have om2 := om2.mono B.size
    have oq2 := oq2.up hB
    have B := B.trans (hB.mono B.size)
    clear hB
    simp (maxSteps := 1000000) (disch := omega) only [WS, List.getElem_cons_zero, List.getElem_cons_succ, Option.isNone_some, Option.isNone_none, List.getD_cons_zero, List.getD_cons_succ, I.at, atL, atO, atP, evp, evs, retV, ↓reduceIte, Nat.reduceEqDiff, reduceCtorEq, AS]
    have hmd : tln m ≤ d := tln_dg_le (hmk.mono (by omega))
    have h3 := tln_le m
    have h4 := tln_le q
    exact ⟨sq2, sm2, tr q, tr m, rfl, oq2, om2, tr_tr q, tr_tr m, by rw [tr_co, tr_co, hco], by rw [tr_len]; omega, by rw [tr_len]; omega, by rw [tr_len]; omega, B⟩
end Go.Proofs.YtcdagkcchfibjaaGreat.Fw

set_option linter.unusedVariables false
set_option linter.unusedSimpArgs false
set_option maxRecDepth 100000
set_option maxHeartbeats 1000000
namespace Go.Proofs.YtcdagkcchfibjaaGreat.Fw
open Go Go.Fw Go.Proofs
attribute [local irreducible] stepI
end Go.Proofs.YtcdagkcchfibjaaGreat.Fw
namespace Go.Proofs.YtcdagkcchfibjaaGreat.Fw
open Go Go.Fw
end Go.Proofs.YtcdagkcchfibjaaGreat.Fw

namespace Go.Proofs.YtcdagkcchfibjaaGreat.Fw
open Go Go.Fw
end Go.Proofs.YtcdagkcchfibjaaGreat.Fw

namespace Go.Proofs.YtcdagkcchfibjaaGreat.Fw
open Go Go.Fw
end Go.Proofs.YtcdagkcchfibjaaGreat.Fw

namespace Go.Proofs.YtcdagkcchfibjaaGreat.Fw
open Go Go.Fw
end Go.Proofs.YtcdagkcchfibjaaGreat.Fw
