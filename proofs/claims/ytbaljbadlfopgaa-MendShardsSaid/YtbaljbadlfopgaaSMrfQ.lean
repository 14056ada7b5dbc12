import Derived.Test.YtbaljbadlfopgaaProg
import Derived.Test.YtbaljbadlfopgaaFwTQ
import Derived.Test.YtbaljbadlfopgaaSRDQ
import Derived.Test.YtbaljbadlfopgaaFwApQ
import Derived.Test.YtbaljbadlfopgaaGfLQ
import Derived.Test.YtbaljbadlfopgaaFwXQ
import Derived.Test.YtbaljbadlfopgaaSMndQ
set_option linter.all false
set_option linter.unusedVariables false
set_option linter.unusedSimpArgs false
set_option maxRecDepth 100000
set_option maxHeartbeats 1000000
namespace Go.Proofs.Ytbaljbadlfopgaa.Fw
open Go Go.Fw Go.Proofs
attribute [local irreducible] stepI
def c_culletref04_divide : C := .seq (.ops [⟨0,some 6,none,.mov (.c (.slice none 0 0)),[]⟩,⟨1,some 7,none,.mov (.c (.slice none 0 0)),[]⟩]) (.seq (.ops [⟨0,some 15,none,.mov (.t 2),[]⟩,⟨1,some 16,none,.call (.c (.func (.func 150) #[] #[])) [.t 15],[]⟩,⟨2,some 8,none,.mov (.t 16),[]⟩]) (.seq (.ops [⟨0,some 17,none,.mov (.t 0),[]⟩,⟨1,some 18,none,.mov (.t 2),[]⟩,⟨2,some 19,none,.mov (.t 8),[]⟩,⟨3,some 20,none,.ixs 1 (.t 18) (.t 19),[]⟩,⟨4,some 21,none,.ld (.t 20),[]⟩,⟨5,some 22,none,.call (.c (.func (.func 120) #[] #[])) [.t 17,.t 21],[]⟩,⟨6,some 9,none,.mov (.t 22),[]⟩]) (.seq (.ops [⟨0,some 23,none,.mov (.t 1),[]⟩,⟨1,some 24,none,.call (.c (.func (.func 122) #[] #[])) [.t 23],[]⟩,⟨2,some 10,none,.mov (.t 24),[]⟩]) (.seq (.ops [⟨0,some 25,none,.mov (.t 10),[]⟩,⟨1,some 26,none,.len (.t 25),[]⟩,⟨2,some 27,none,.mks 73 2 [.int .u16 0] (.t 26) (.t 26),[]⟩,⟨3,some 11,none,.mov (.t 27),[]⟩]) (.seq (.seq (.ops [⟨0,some 28,none,.mov (.t 10),[]⟩,⟨1,some 29,none,.len (.t 28),[]⟩,⟨2,some 30,none,.bin .sub (.t 29) (.c (.int .i64 1)),[]⟩,⟨3,some 12,none,.mov (.t 30),[]⟩]) (.block 0 (.loop (.seq (.seq (.ops [⟨0,some 31,none,.mov (.t 12),[]⟩,⟨1,some 32,none,.mov (.t 8),[]⟩,⟨2,some 33,none,.bin .geq (.t 31) (.t 32),[]⟩]) (.ite (.t 33) .skip (.exit 0))) (.seq (.block 1 (.seq (.ops [⟨0,some 36,none,.mov (.t 0),[]⟩,⟨1,some 37,none,.mov (.t 10),[]⟩,⟨2,some 38,none,.mov (.t 12),[]⟩,⟨3,some 39,none,.ixs 1 (.t 37) (.t 38),[]⟩,⟨4,some 40,none,.ld (.t 39),[]⟩,⟨5,some 41,none,.mov (.t 9),[]⟩,⟨6,some 42,none,.call (.c (.func (.func 119) #[] #[])) [.t 36,.t 40,.t 41],[]⟩,⟨7,some 13,none,.mov (.t 42),[]⟩]) (.seq (.ops [⟨0,some 43,none,.mov (.t 11),[]⟩,⟨1,some 44,none,.mov (.t 12),[]⟩,⟨2,some 45,none,.mov (.t 8),[]⟩,⟨3,some 46,none,.bin .sub (.t 44) (.t 45),[]⟩,⟨4,some 47,none,.mov (.t 13),[]⟩,⟨5,some 48,none,.ixs 1 (.t 43) (.t 46),[]⟩,⟨6,none,none,.st (.t 48) (.t 47),[]⟩]) (.seq (.ops [⟨0,some 14,none,.mov (.c (.int .i64 0)),[]⟩]) (.block 2 (.loop (.seq (.seq (.ops [⟨0,some 49,none,.mov (.t 14),[]⟩,⟨1,some 50,none,.mov (.t 8),[]⟩,⟨2,some 51,none,.bin .leq (.t 49) (.t 50),[]⟩,⟨3,some 52,none,.mov (.t 51),[]⟩,⟨4,some 53,(some (52,true)),.mov (.t 13),[]⟩,⟨5,some 54,(some (52,true)),.bin .neq (.t 53) (.c (.int .u16 0)),[]⟩,⟨6,some 55,none,.pick (.t 52) (.t 54) (.c (.bool false)),[]⟩]) (.ite (.t 55) .skip (.exit 2))) (.seq (.block 3 (.dops [⟨0,some 58,none,.mov (.t 10),[]⟩,⟨1,some 59,none,.mov (.t 12),[]⟩,⟨2,some 60,none,.mov (.t 8),[]⟩,⟨3,some 61,none,.bin .sub (.t 59) (.t 60),[]⟩,⟨4,some 62,none,.mov (.t 14),[]⟩,⟨5,some 63,none,.bin .add (.t 61) (.t 62),[]⟩,⟨6,some 64,none,.mov (.t 10),[]⟩,⟨7,some 65,none,.mov (.t 12),[]⟩,⟨8,some 66,none,.mov (.t 8),[]⟩,⟨9,some 67,none,.bin .sub (.t 65) (.t 66),[]⟩,⟨10,some 68,none,.mov (.t 14),[]⟩,⟨11,some 69,none,.bin .add (.t 67) (.t 68),[]⟩,⟨12,some 70,none,.ixs 1 (.t 64) (.t 69),[]⟩,⟨13,some 71,none,.ld (.t 70),[]⟩,⟨14,some 72,none,.mov (.t 0),[]⟩,⟨15,some 73,none,.mov (.t 13),[]⟩,⟨16,some 74,none,.mov (.t 2),[]⟩,⟨17,some 75,none,.mov (.t 14),[]⟩,⟨18,some 76,none,.ixs 1 (.t 74) (.t 75),[]⟩,⟨19,some 77,none,.ld (.t 76),[]⟩,⟨20,some 78,none,.call (.c (.func (.func 119) #[] #[])) [.t 72,.t 73,.t 77],[13]⟩,⟨21,some 79,none,.bin .xor (.t 71) (.t 78),[]⟩,⟨22,some 80,none,.ixs 1 (.t 58) (.t 63),[]⟩,⟨23,none,none,.st (.t 80) (.t 79),[]⟩])) (.ops [⟨0,some 56,none,.mov (.t 14),[]⟩,⟨1,some 57,none,.bin .add (.t 56) (.c (.int .i64 1)),[]⟩,⟨2,some 14,none,.mov (.t 57),[]⟩]))))))))) (.ops [⟨0,some 34,none,.mov (.t 12),[]⟩,⟨1,some 35,none,.bin .sub (.t 34) (.c (.int .i64 1)),[]⟩,⟨2,some 12,none,.mov (.t 35),[]⟩])))))) (.seq (.ops [⟨0,some 81,none,.mov (.t 11),[]⟩,⟨1,some 82,none,.call (.c (.func (.func 122) #[] #[])) [.t 81],[]⟩,⟨2,some 83,none,.mov (.t 10),[]⟩,⟨3,some 84,none,.call (.c (.func (.func 122) #[] #[])) [.t 83],[]⟩,⟨4,some 6,none,.mov (.t 82),[]⟩,⟨5,some 7,none,.mov (.t 84),[]⟩]) .ret))))))
attribute [irreducible] c_culletref04_divide
theorem run_culletref04_divide {args : List Value} {w : World} {K : Value → World → Prop} (hn : args.length ≤ 85) (h : WP Try.prog c_culletref04_divide (endQ [.t 6, .t 7] K) (initT args) w) : CallV Try.prog 118 args w K :=
  call_of follows Try.func118 (by kernel_rfl) (by kernel_rfl) hn h
def c_culletref04_DivMod : C := .seq (.ops [⟨0,some 6,none,.mov (.c (.slice none 0 0)),[]⟩,⟨1,some 7,none,.mov (.c (.slice none 0 0)),[]⟩,⟨2,some 8,none,.mov (.c (.int .i64 0)),[]⟩]) (.seq (.seq (.ops [⟨0,some 11,none,.mov (.t 1),[]⟩,⟨1,some 12,none,.len (.t 11),[]⟩,⟨2,some 13,none,.bin .gtr (.t 12) (.c (.int .i64 1024)),[]⟩,⟨3,some 14,none,.mov (.t 13),[]⟩,⟨4,some 15,(some (14,false)),.mov (.t 2),[]⟩,⟨5,some 16,(some (14,false)),.len (.t 15),[]⟩,⟨6,some 17,(some (14,false)),.bin .gtr (.t 16) (.c (.int .i64 1024)),[]⟩,⟨7,some 18,none,.pick (.t 14) (.c (.bool true)) (.t 17),[]⟩]) (.ite (.t 18) (.seq (.ops [⟨0,some 6,none,.mov (.c (.slice none 0 0)),[]⟩,⟨1,some 7,none,.mov (.c (.slice none 0 0)),[]⟩,⟨2,some 8,none,.mov (.c (.int .i64 5)),[]⟩]) .ret) .skip)) (.seq (.seq (.ops [⟨0,some 19,none,.mov (.t 2),[]⟩,⟨1,some 20,none,.call (.c (.func (.func 150) #[] #[])) [.t 19],[]⟩,⟨2,some 21,none,.bin .lss (.t 20) (.c (.int .i64 0)),[]⟩]) (.ite (.t 21) (.seq (.ops [⟨0,some 6,none,.mov (.c (.slice none 0 0)),[]⟩,⟨1,some 7,none,.mov (.c (.slice none 0 0)),[]⟩,⟨2,some 8,none,.mov (.c (.int .i64 40)),[]⟩]) .ret) .skip)) (.seq (.ops [⟨0,some 23,none,.mov (.t 0),[]⟩,⟨1,some 24,none,.mov (.t 1),[]⟩,⟨2,some 25,none,.mov (.t 2),[]⟩,⟨3,some 26,none,.call (.c (.func (.func 118) #[] #[])) [.t 23,.t 24,.t 25],[]⟩,⟨4,some 22,none,.mov (.t 26),[]⟩,⟨5,some 27,none,.ext (.t 22) 0,[]⟩,⟨6,some 28,none,.ext (.t 22) 1,[]⟩,⟨7,some 9,none,.mov (.t 27),[]⟩,⟨8,some 10,none,.mov (.t 28),[]⟩]) (.seq (.ops [⟨0,some 29,none,.mov (.t 9),[]⟩,⟨1,some 30,none,.mov (.t 10),[]⟩,⟨2,some 6,none,.mov (.t 29),[]⟩,⟨3,some 7,none,.mov (.t 30),[]⟩,⟨4,some 8,none,.mov (.c (.int .i64 0)),[]⟩]) .ret))))
attribute [irreducible] c_culletref04_DivMod
theorem run_culletref04_DivMod {args : List Value} {w : World} {K : Value → World → Prop} (hn : args.length ≤ 31) (h : WP Try.prog c_culletref04_DivMod (endQ [.t 6, .t 7, .t 8] K) (initT args) w) : CallV Try.prog 124 args w K :=
  call_of follows Try.func124 (by kernel_rfl) (by kernel_rfl) hn h
end Go.Proofs.Ytbaljbadlfopgaa.Fw
namespace Go.Proofs.Ytbaljbadlfopgaa.Fw
open Go Go.Fw
theorem culletref04_divide_b_spec (w : World) (s1 s2 : Value) (f g : List (El 8)) (h1 : Sl w s1 (f.map em8)) (h2 : Sl w s2 (g.map em8)) (hb1 : f.length ≤ 2097152) (hb2 : g.length ≤ 2097152) (hg0 : tln g ≠ 0) :
    CallV Try.prog 118 [.bool false, s1, s2] w fun v w' => ∃ (sq sm : Value) (q m : List (El 8)), v = .tuple #[sq, sm] ∧ Ow w.heap.size w' sq (q.map em8) ∧ Ow w.heap.size w' sm (m.map em8) ∧ tr q = q ∧ tr m = m ∧ co f = co q * co g + co m ∧ m.length < tln g ∧ m.length ≤ f.length ∧ q.length ≤ f.length ∧ RowKit.Below w.heap.size w w' := by
  refine run_culletref04_divide (by simp) ?_
  simp only [c_culletref04_divide, WS, ↓reduceIte, Nat.reduceEqDiff, reduceCtorEq]
  have hm1 : (f.map em8).length = f.length := List.length_map ..
  have hm2 : (g.map em8).length = g.length := List.length_map ..
  have hgl := tln_le g
  have hfl := tln_le f
  obtain ⟨d, hd⟩ : ∃ d, tln g = d + 1 := ⟨tln g - 1, by omega⟩
  have hdg : d < g.length := by omega
  have hdg2 : d < (g.map em8).length := by omega
  have htop : g[d] ≠ 0 := by rw [← co_get g hdg]; exact tln_top g d hd
  have hgd : (g.map em8)[d] = em8 g[d] := List.getElem_map ..
  have hgD : Dg (co g) (d + 1) := by rw [← hd]; exact tln_dg g
  refine X_call0 ((culletref04_Degree_spec w s2 (g.map em8) h2 (by omega)).mono ?_)
  rintro _ w ⟨rfl, rfl⟩
  rw [tln_em8x, hd, show ((d + 1 : Nat) : Int) - 1 = (d : Int) by omega]
  simp (maxSteps := 1000000) (disch := omega) only [WS, ↓reduceIte, Nat.reduceEqDiff, reduceCtorEq, AS, h2.Xix hdg2, h2.Xld hdg2, hgd, cell_e16]
  refine X_call0 ((culletref04_inverse_b_spec w g[d] htop).mono ?_)
  rintro _ w ⟨rfl, rfl⟩
  obtain ⟨c0, hc0⟩ : ∃ c0, g[d].inv = c0 := ⟨_, rfl⟩
  have hgc : g[d] * c0 = 1 := by rw [← hc0]; exact El.mul_inv _ htop
  rw [hc0]
  simp (maxSteps := 1000000) (disch := omega) only [WS, ↓reduceIte, Nat.reduceEqDiff, reduceCtorEq, AS]
  refine X_call0 ((culletref04_Trim_spec w s1 (f.map em8) h1 (by omega)).mono ?_)
  rintro sm w1 ⟨om, hB⟩
  rw [tr_em8] at om
  have lm : (tr f).length = tln f := tr_len f
  have lmm : ((tr f).map em8).length = tln f := by rw [List.length_map, lm]
  have cm : co (tr f) = co f := tr_co f
  generalize tr f = m0 at om lm lmm cm
  obtain ⟨N, hN⟩ : ∃ N, tln f = N := ⟨_, rfl⟩
  rw [hN] at lm lmm hfl
  have B := hB
  clear hB
  simp (maxSteps := 1000000) (disch := omega) only [WS, ↓reduceIte, Nat.reduceEqDiff, reduceCtorEq, AS, om.sl.Xlen, lmm]
  refine X_mks (x := (0 : El 16)) (by simp only [maxBytes]; omega) (by omega) fun sq w2 oq hB => ?_
  obtain ⟨W1, hW1⟩ : ∃ W1, w1.heap.size = W1 := ⟨_, rfl⟩
  have hne : ∀ b, Fw.blk sm = some b → Fw.blk sq ≠ some b := fun b hb e => by have := (om.blk b hb).2; have := (oq.blk b e).1; omega
  have hne2 : Fw.blk sq ≠ Fw.blk sm ∨ m0 = [] := by
    by_cases hz : m0 = []
    · exact Or.inr hz
    · left
      intro e
      obtain ⟨b, hb, -⟩ := om.sl.blk_lt (by simpa using hz)
      exact hne b hb (e.trans hb)
  have hz : List.replicate N (0 : El 16) = (List.replicate N (0 : El 8)).map em8 := by rw [List.map_replicate]; rfl
  rw [hz] at oq
  have oq := oq.mono B.size
  have om := om.up hB
  have B := B.trans (hB.mono B.size)
  clear hB
  have e0 : IntKind.i64.wrap ((N : Int) - 1) = (N : Int) - 1 := wrap_id (by omega) (by omega)
  simp (maxSteps := 1000000) only [WS, ↓reduceIte, Nat.reduceEqDiff, reduceCtorEq, om.sl.Xlen, lmm, e0]
  refine loop_of (fun t w' => t 0 = .bool false ∧ t 2 = s2 ∧ t 8 = .int .i64 (d : Int) ∧ t 9 = .int .u16 ((em8 c0).v.toNat : Int) ∧ t 10 = sm ∧ t 11 = sq ∧ RowKit.Below w.heap.size w w' ∧ ∃ (k : Nat) (q m : List (El 8)), t 12 = .int .i64 ((k : Int) - 1) ∧ k ≤ N ∧ Ow w.heap.size w' sq (q.map em8) ∧ Ow w.heap.size w' sm (m.map em8) ∧ q.length = N ∧ m.length = N ∧
      co f = co q * co g + co m ∧ Dg (co m) k ∧ (∀ u, u + d < k → (co q).c u = 0) ∧ (N ≤ d → ∀ u, (co q).c u = 0)) (fun t _ => (toI (t 12) + 1).toNat)
    ⟨by simp only [WS, ↓reduceIte, Nat.reduceEqDiff, reduceCtorEq], by simp only [WS, ↓reduceIte, Nat.reduceEqDiff, reduceCtorEq], by simp only [WS, ↓reduceIte, Nat.reduceEqDiff, reduceCtorEq], by simp only [WS, ↓reduceIte, Nat.reduceEqDiff, reduceCtorEq], by simp only [WS, ↓reduceIte, Nat.reduceEqDiff, reduceCtorEq], by simp only [WS, ↓reduceIte, Nat.reduceEqDiff, reduceCtorEq], B, N, List.replicate N 0, m0, rfl, by omega, oq, om, List.length_replicate .., lm, by rw [co_replicate, Ps.zero_mul, Ps.zero_add, cm], by rw [cm, ← hN]; exact tln_dg f, fun u _ => by rw [co_replicate]; rfl, fun _ u => by rw [co_replicate]; rfl⟩ ?_
  clear B om oq cm lm lmm hz
  rintro t w3 ⟨t0, t2, t8, t9, t10, t11, B, k, q, m, t12, hk, oq, om, ql, ml, hco, hmk, hq0, hqz⟩
  have hmq : (q.map em8).length = N := by rw [List.length_map, ql]
  have hmm : (m.map em8).length = N := by rw [List.length_map, ml]
  by_cases hkd : d + 1 ≤ k
  · obtain ⟨i, rfl⟩ : ∃ i, k = i + 1 := ⟨k - 1, by omega⟩
    have hti : ((i + 1 : Nat) : Int) - 1 = (i : Int) := by omega
    rw [hti] at t12
    have im : i < m.length := by omega
    have imm : i < (m.map em8).length := by omega
    have iq : i - d < q.length := by omega
    have iqm : i - d < (q.map em8).length := by omega
    have hgm : (m.map em8)[i] = em8 m[i] := List.getElem_map ..
    simp (maxSteps := 1000000) (disch := omega) only [WS, ↓reduceIte, Nat.reduceEqDiff, reduceCtorEq, AS, t0, t2, t8, t9, t10, t11, t12, om.sl.Xix imm, om.sl.Xld imm, hgm, cell_e16]
    refine X_call0 ((culletref04_timesx_b_spec w3 m[i] c0).mono ?_)
    rintro _ w4 ⟨rfl, rfl⟩
    obtain ⟨c, hc⟩ : ∃ c, m[i] * c0 = c := ⟨_, rfl⟩
    rw [hc]
    simp (maxSteps := 1000000) (disch := omega) only [WS, ↓reduceIte, Nat.reduceEqDiff, reduceCtorEq, AS, t0, t2, t8, t9, t10, t11, t12, oq.sl.Xix iqm]
    refine oq.Xst iqm (em8 c) fun w5 oq5 hg5 => ?_
    rw [← List.map_set] at oq5
    have B5 := B.grown hg5 B.size fun b hb => (oq.blk b hb).1
    have om5 : Ow w.heap.size w5 sm (m.map em8) := om.keep (keep_grown hg5) fun b hb e => hne b hb e
    have hcq : ∀ u, (co (q.set (i - d) c)).c u = if u = i - d then c else (co q).c u := fun u => co_set q iq c u
    have hqi : (co q).c (i - d) = 0 := hq0 (i - d) (by omega)
    have hcq2 : co (q.set (i - d) c) = co q + Ps.mono (i - d) c := Ps.ext fun u => by
      rw [hcq u, Ps.add_c]
      show _ = (co q).c u + if u = i - d then c else 0
      by_cases hu : u = i - d
      · rw [if_pos hu, if_pos hu, hu, hqi, El.zero_add]
      · rw [if_neg hu, if_neg hu, El.add_zero]
    have lq5 : (q.set (i - d) c).length = N := by simpa using ql
    have hq5 : ∀ u, u + d < i → (co (q.set (i - d) c)).c u = 0 := fun u hu => by rw [hcq u, if_neg (by omega), hq0 u (by omega)]
    generalize q.set (i - d) c = q5 at oq5 hcq2 lq5 hq5
    clear om oq B hcq
    simp (maxSteps := 1000000) (disch := omega) only [WS, ↓reduceIte, Nat.reduceEqDiff, reduceCtorEq, AS, t0, t2, t8, t9, t10, t11, t12]
    refine loop_of (fun t w' => t 0 = .bool false ∧ t 2 = s2 ∧ t 8 = .int .i64 (d : Int) ∧ t 9 = .int .u16 ((em8 c0).v.toNat : Int) ∧ t 10 = sm ∧ t 11 = sq ∧ t 12 = .int .i64 (i : Int) ∧ t 13 = .int .u16 ((em8 c).v.toNat : Int) ∧ RowKit.Below w.heap.size w w' ∧ Ow w.heap.size w' sq (q5.map em8) ∧ ∃ (j : Nat) (n : List (El 8)), t 14 = .int .i64 (j : Int) ∧ j ≤ d + 1 ∧ Ow w.heap.size w' sm (n.map em8) ∧ n.length = N ∧
        ∀ u, (co n).c u = (co m).c u + (if i - d ≤ u ∧ u < i - d + j then c * (co g).c (u - (i - d)) else 0)) (fun t _ => d + 1 - (toI (t 14)).toNat)
      ⟨by simp only [WS, ↓reduceIte, Nat.reduceEqDiff, reduceCtorEq]; exact t0, by simp only [WS, ↓reduceIte, Nat.reduceEqDiff, reduceCtorEq]; exact t2, by simp only [WS, ↓reduceIte, Nat.reduceEqDiff, reduceCtorEq]; exact t8, by simp only [WS, ↓reduceIte, Nat.reduceEqDiff, reduceCtorEq]; exact t9, by simp only [WS, ↓reduceIte, Nat.reduceEqDiff, reduceCtorEq]; exact t10, by simp only [WS, ↓reduceIte, Nat.reduceEqDiff, reduceCtorEq]; exact t11, by simp only [WS, ↓reduceIte, Nat.reduceEqDiff, reduceCtorEq]; exact t12, by simp only [WS, ↓reduceIte, Nat.reduceEqDiff, reduceCtorEq], B5, oq5, 0, m, rfl, by omega, om5, ml, fun u => by rw [if_neg (by omega), El.add_zero]⟩ ?_
    clear t0 t2 t8 t9 t10 t11 t12 B5 oq5 om5
    rintro t w6 ⟨t0, t2, t8, t9, t10, t11, t12, t13, B, oq, j, n, t14, hj, om, nl, nc⟩
    have ew : IntKind.i64.wrap ((i : Int) - 1) = (i : Int) - 1 := wrap_id (by omega) (by omega)
    have fin : (∀ hn : co n = co m + Ps.mono (i - d) c * co g, co f = co q5 * co g + co n ∧ Dg (co n) i) := fun hn => by
      refine ⟨?_, fun u hu => ?_⟩
      · rw [hn, hcq2, Ps.add_mul, hco]
        generalize Ps.mono (i - d) c * co g = X
        generalize co q * co g = Y
        rw [show Y + X + (co m + X) = Y + co m + (X + X) by ac_rfl, Ps.add_self, Ps.add_zero]
      · rw [hn, Ps.add_c, Ps.mono_mul, if_pos (by omega)]
        by_cases hui : u = i
        · subst hui
          rw [show u - (u - d) = d by omega, co_get g hdg, co_get m im, ← hc, show m[u] * c0 * g[d] = m[u] * (g[d] * c0) by ac_rfl, hgc, El.mul_one, El.add_self]
        · rw [hmk u (by omega), hgD _ (by omega), El.mul_zero, El.add_zero]
    have hiz : N ≤ d → ∀ u, (co q5).c u = 0 := fun h => by omega
    by_cases hz : c = 0
    · have d1 : (!decide (((em8 c).v.toNat : Int) = 0)) = false := by rw [decide_eq_true ((em8_wz c).mpr hz)]; rfl
      have hn : co n = co m + Ps.mono (i - d) c * co g := by
        rw [hz, mono_zero, Ps.zero_mul, Ps.add_zero]
        refine Ps.ext fun u => ?_
        rw [nc u, hz]
        split
        · rw [El.zero_mul, El.add_zero]
        · rw [El.add_zero]
      obtain ⟨f1, f2⟩ := fin hn
      by_cases hjd : j ≤ d
      · simp (maxSteps := 1000000) (disch := omega) only [WS, ↓reduceIte, Nat.reduceEqDiff, reduceCtorEq, decide_eq_true, t0, t2, t8, t9, t10, t11, t12, t13, t14, d1, ew, toI_int]
        exact ⟨⟨B, i, q5, n, rfl, by omega, oq, om, lq5, nl, f1, f2, hq5, hiz⟩, by omega⟩
      · simp (maxSteps := 1000000) (disch := omega) only [WS, ↓reduceIte, Nat.reduceEqDiff, reduceCtorEq, decide_eq_false, t0, t2, t8, t9, t10, t11, t12, t13, t14, d1, ew, toI_int]
        exact ⟨⟨B, i, q5, n, rfl, by omega, oq, om, lq5, nl, f1, f2, hq5, hiz⟩, by omega⟩
    have d1 : (!decide (((em8 c).v.toNat : Int) = 0)) = true := by rw [decide_eq_false (fun e => hz ((em8_wz c).mp e))]; rfl
    by_cases hjd : j ≤ d
    · have hin : i - d + j < n.length := by omega
      have hinm : i - d + j < (n.map em8).length := by rw [List.length_map]; exact hin
      have hjg : j < g.length := by omega
      have hjgm : j < (g.map em8).length := by omega
      have hgn : (n.map em8)[i - d + j] = em8 n[i - d + j] := List.getElem_map ..
      have hgj : (g.map em8)[j] = em8 g[j] := List.getElem_map ..
      have g2 := h2.up B
      simp (maxSteps := 1000000) (disch := omega) only [WS, ↓reduceIte, Nat.reduceEqDiff, reduceCtorEq, AS, t0, t2, t8, t9, t10, t11, t12, t13, t14, d1]
      refine WP_dops ?_
      have omd := om.sl.drew
      have g2d := g2.drew
      have see : Fw.sees Try.prog (.ld (.c (elP sm (i - d + j)))) w6.drew (.int .u16 ((em8 n[i - d + j]).v.toNat : Int)) = True := by rw [← hgn]; exact omd.sees hinm Try.prog
      have see2 : Fw.sees Try.prog (.ld (.c (elP s2 j))) w6.drew (.int .u16 ((em8 g[j]).v.toNat : Int)) = True := by rw [← hgj]; exact g2d.sees hjgm Try.prog
      simp (maxSteps := 1000000) (disch := omega) only [ES, List.mem_cons, List.not_mem_nil, implies_true, forall_const, WS, ↓reduceIte, Nat.reduceEqDiff, reduceCtorEq, AS, t0, t2, t8, t9, t10, t11, t12, t13, t14, omd.Eix hinm, omd.Eld hinm, g2d.Eix hjgm, g2d.Eld hjgm, hgn, hgj, cell_e16]
      refine E_call0 ((culletref04_timesx_b_spec w6.drew c g[j]).mono ?_)
      rintro _ w7 ⟨rfl, rfl⟩
      simp (maxSteps := 1000000) (disch := omega) only [ES, List.mem_cons, List.not_mem_nil, implies_true, forall_const, WS, ↓reduceIte, Nat.reduceEqDiff, reduceCtorEq, AS, see, see2, xor16, em8_add, t0, t2, t8, t9, t10, t11, t12, t13, t14, omd.Eix hinm]
      refine Ow.Est om.drew hinm (em8 (n[i - d + j] + c * g[j])) fun w8 om8 hg8 => ?_
      rw [← List.map_set] at om8
      have hgd8 := grown_of_drew hg8
      have oq8 : Ow w.heap.size w8 sq (q5.map em8) := oq.keep (keep_grown hgd8) fun b hb e => by
        exact hne b e hb
      simp (maxSteps := 1000000) (disch := omega) only [ES, List.mem_cons, List.not_mem_nil, implies_true, forall_const, WS, ↓reduceIte, Nat.reduceEqDiff, reduceCtorEq, AS, t0, t2, t8, t9, t10, t11, t12, t13, t14]
      refine ⟨⟨B.grown hgd8 B.size fun b hb => (om.blk b hb).1, oq8, j + 1, _, rfl, by omega, om8, by simpa using nl, fun u => ?_⟩, by omega⟩
      rw [co_set _ hin, nc u]
      by_cases hu : u = i - d + j
      · subst hu
        rw [if_pos rfl, if_pos ⟨by omega, by omega⟩, ← co_get n hin, nc, if_neg (by omega), El.add_zero, show i - d + j - (i - d) = j by omega, co_get g hjg]
      · rw [if_neg hu]
        have : (i - d ≤ u ∧ u < i - d + (j + 1)) = (i - d ≤ u ∧ u < i - d + j) := propext ⟨fun h => by omega, fun h => by omega⟩
        simp only [this]
    · obtain rfl : j = d + 1 := by omega
      have hn : co n = co m + Ps.mono (i - d) c * co g := Ps.ext fun u => by
        rw [nc u, Ps.add_c, Ps.mono_mul]
        congr 1
        by_cases hu : i - d ≤ u
        · rw [if_pos hu]
          by_cases hu2 : u < i - d + (d + 1)
          · rw [if_pos ⟨hu, hu2⟩]
          · rw [if_neg (by omega), hgD _ (by omega), El.mul_zero]
        · rw [if_neg (by omega), if_neg hu]
      obtain ⟨f1, f2⟩ := fin hn
      simp (maxSteps := 1000000) (disch := omega) only [WS, ↓reduceIte, Nat.reduceEqDiff, reduceCtorEq, decide_eq_false, t0, t2, t8, t9, t10, t11, t12, t13, t14, d1, ew, toI_int]
      exact ⟨⟨B, i, q5, n, rfl, by omega, oq, om, lq5, nl, f1, f2, hq5, hiz⟩, by omega⟩
  · have hlt : ¬ ((d : Int) ≤ (k : Int) - 1) := by omega
    simp (maxSteps := 1000000) (disch := omega) only [WS, ↓reduceIte, Nat.reduceEqDiff, reduceCtorEq, AS, t0, t2, t8, t9, t10, t11, t12, decide_eq_false hlt]
    refine X_call0 ((culletref04_Trim_spec w3 sq (q.map em8) oq.sl (by omega)).mono ?_)
    rintro sq2 w4 ⟨oq2, hB⟩
    rw [tr_em8] at oq2
    have oq2 := oq2.mono B.size
    have om := om.up hB
    have B := B.trans (hB.mono B.size)
    clear hB
    simp (maxSteps := 1000000) (disch := omega) only [WS, ↓reduceIte, Nat.reduceEqDiff, reduceCtorEq, AS, t0, t2, t8, t9, t10, t11, t12]
    refine X_call0 ((culletref04_Trim_spec w4 sm (m.map em8) om.sl (by omega)).mono ?_)
    rintro sm2 w5 ⟨om2, hB⟩
    rw [tr_em8] at om2
    have om2 := om2.mono B.size
    have oq2 := oq2.up hB
    have B := B.trans (hB.mono B.size)
    clear hB
    simp (maxSteps := 1000000) (disch := omega) only [WS, ↓reduceIte, Nat.reduceEqDiff, reduceCtorEq, AS]
    have hmd : tln m ≤ d := tln_dg_le (hmk.mono (by omega))
    have h3 := tln_le m
    have h4 := tln_le q
    exact ⟨sq2, sm2, tr q, tr m, rfl, oq2, om2, tr_tr q, tr_tr m, by rw [tr_co, tr_co, hco], by rw [tr_len]; omega, by rw [tr_len]; omega, by rw [tr_len]; omega, B⟩
theorem culletref04_DivMod_b_spec (w : World) (s1 s2 : Value) (f g : List (El 8)) (h1 : Sl w s1 (f.map em8)) (h2 : Sl w s2 (g.map em8)) (hb1 : f.length ≤ 70368744175616) (hb2 : g.length ≤ 70368744175616) :
    CallV Try.prog 124 [.bool false, s1, s2] w fun v w' => RowKit.Below w.heap.size w w' ∧
      ((f.length ≤ 1024 ∧ g.length ≤ 1024 ∧ tln g ≠ 0 ∧ ∃ (sq sm : Value) (q m : List (El 8)), v = .tuple #[sq, sm, .int .i64 0] ∧ Ow w.heap.size w' sq (q.map em8) ∧ Ow w.heap.size w' sm (m.map em8) ∧ tr q = q ∧ tr m = m ∧ co f = co q * co g + co m ∧ m.length < tln g ∧ q.length ≤ f.length) ∨
       (f.length ≤ 1024 ∧ g.length ≤ 1024 ∧ tln g = 0 ∧ v = .tuple #[.slice none 0 0, .slice none 0 0, .int .i64 40]) ∨ (¬ (f.length ≤ 1024 ∧ g.length ≤ 1024) ∧ v = .tuple #[.slice none 0 0, .slice none 0 0, .int .i64 5])) := by
  refine run_culletref04_DivMod (by simp) ?_
  simp only [c_culletref04_DivMod, WS, ↓reduceIte, Nat.reduceEqDiff, reduceCtorEq]
  have hm1 : (f.map em8).length = f.length := List.length_map ..
  have hm2 : (g.map em8).length = g.length := List.length_map ..
  by_cases c1 : 1024 < f.length
  · simp (maxSteps := 1000000) (disch := omega) only [WS, ↓reduceIte, Nat.reduceEqDiff, reduceCtorEq, AS, h1.Xlen, hm1]
    exact ⟨RowKit.Below.refl _ _, Or.inr (Or.inr (by omega))⟩
  by_cases c2 : 1024 < g.length
  · simp (maxSteps := 1000000) (disch := omega) only [WS, ↓reduceIte, Nat.reduceEqDiff, reduceCtorEq, AS, h1.Xlen, h2.Xlen, hm1, hm2]
    exact ⟨RowKit.Below.refl _ _, Or.inr (Or.inr (by omega))⟩
  simp (maxSteps := 1000000) (disch := omega) only [WS, ↓reduceIte, Nat.reduceEqDiff, reduceCtorEq, AS, h1.Xlen, h2.Xlen, hm1, hm2]
  refine X_call0 ((culletref04_Degree_spec w s2 (g.map em8) h2 (by omega)).mono ?_)
  rintro _ w ⟨rfl, rfl⟩
  rw [tln_em8x]
  by_cases hz : tln g = 0
  · have hlt : ((tln g : Int) - 1 < 0) := by omega
    simp (maxSteps := 1000000) (disch := omega) only [WS, ↓reduceIte, Nat.reduceEqDiff, reduceCtorEq, AS, decide_eq_true hlt]
    exact ⟨RowKit.Below.refl _ _, Or.inr (Or.inl ⟨by omega, by omega, hz⟩)⟩
  · have hlt : ¬ ((tln g : Int) - 1 < 0) := by omega
    simp (maxSteps := 1000000) (disch := omega) only [WS, ↓reduceIte, Nat.reduceEqDiff, reduceCtorEq, AS, decide_eq_false hlt]
    refine X_call0 ((culletref04_divide_b_spec w s1 s2 f g h1 h2 (by omega) (by omega) hz).mono ?_)
    rintro _ w' ⟨sq, sm, q, m, rfl, oq, om, tq, tm, hco, hml, -, hql, hB⟩
    simp (maxSteps := 1000000) (disch := omega) only [WS, ↓reduceIte, Nat.reduceEqDiff, reduceCtorEq, AS]
    exact ⟨hB, Or.inl ⟨by omega, by omega, hz, sq, sm, q, m, rfl, oq, om, tq, tm, hco, hml, hql⟩⟩
end Go.Proofs.Ytbaljbadlfopgaa.Fw

set_option linter.unusedVariables false
set_option linter.unusedSimpArgs false
set_option maxRecDepth 100000
set_option maxHeartbeats 1000000
namespace Go.Proofs.Ytbaljbadlfopgaa.Fw
open Go Go.Fw Go.Proofs
attribute [local irreducible] stepI
def c_culletref04_vanishing : C := .seq (.ops [⟨0,some 4,none,.mov (.c (.slice none 0 0)),[]⟩]) (.seq (.ops [⟨0,some 9,none,.bsl 73 1 [.int .u16 0] [(0,(1,.c (.int .u16 1)))],[]⟩,⟨1,some 5,none,.mov (.t 9),[]⟩]) (.seq (.seq (.ops [⟨0,some 6,none,.mov (.c (.int .i64 0)),[]⟩]) (.block 0 (.loop (.seq (.seq (.ops [⟨0,some 10,none,.mov (.t 6),[]⟩,⟨1,some 11,none,.mov (.t 1),[]⟩,⟨2,some 12,none,.len (.t 11),[]⟩,⟨3,some 13,none,.bin .lss (.t 10) (.t 12),[]⟩]) (.ite (.t 13) .skip (.exit 0))) (.seq (.block 1 (.seq (.ops [⟨0,some 16,none,.mov (.t 5),[]⟩,⟨1,some 17,none,.len (.t 16),[]⟩,⟨2,some 18,none,.bin .add (.t 17) (.c (.int .i64 1)),[]⟩,⟨3,some 19,none,.mks 73 2 [.int .u16 0] (.t 18) (.t 18),[]⟩,⟨4,some 7,none,.mov (.t 19),[]⟩]) (.seq (.seq (.ops [⟨0,some 8,none,.mov (.c (.int .i64 0)),[]⟩]) (.block 2 (.loop (.seq (.seq (.ops [⟨0,some 20,none,.mov (.t 8),[]⟩,⟨1,some 21,none,.mov (.t 5),[]⟩,⟨2,some 22,none,.len (.t 21),[]⟩,⟨3,some 23,none,.bin .lss (.t 20) (.t 22),[]⟩]) (.ite (.t 23) .skip (.exit 2))) (.seq (.block 3 (.seq (.dops [⟨0,some 26,none,.mov (.t 7),[]⟩,⟨1,some 27,none,.mov (.t 8),[]⟩,⟨2,some 28,none,.bin .add (.t 27) (.c (.int .i64 1)),[]⟩,⟨3,some 29,none,.mov (.t 7),[]⟩,⟨4,some 30,none,.mov (.t 8),[]⟩,⟨5,some 31,none,.bin .add (.t 30) (.c (.int .i64 1)),[]⟩,⟨6,some 32,none,.ixs 1 (.t 29) (.t 31),[]⟩,⟨7,some 33,none,.ld (.t 32),[]⟩,⟨8,some 34,none,.mov (.t 5),[]⟩,⟨9,some 35,none,.mov (.t 8),[]⟩,⟨10,some 36,none,.ixs 1 (.t 34) (.t 35),[]⟩,⟨11,some 37,none,.ld (.t 36),[]⟩,⟨12,some 38,none,.bin .xor (.t 33) (.t 37),[]⟩,⟨13,some 39,none,.ixs 1 (.t 26) (.t 28),[]⟩,⟨14,none,none,.st (.t 39) (.t 38),[]⟩]) (.dops [⟨0,some 40,none,.mov (.t 7),[]⟩,⟨1,some 41,none,.mov (.t 8),[]⟩,⟨2,some 42,none,.mov (.t 7),[]⟩,⟨3,some 43,none,.mov (.t 8),[]⟩,⟨4,some 44,none,.ixs 1 (.t 42) (.t 43),[]⟩,⟨5,some 45,none,.ld (.t 44),[]⟩,⟨6,some 46,none,.mov (.t 0),[]⟩,⟨7,some 47,none,.mov (.t 5),[]⟩,⟨8,some 48,none,.mov (.t 8),[]⟩,⟨9,some 49,none,.ixs 1 (.t 47) (.t 48),[]⟩,⟨10,some 50,none,.ld (.t 49),[]⟩,⟨11,some 51,none,.mov (.t 1),[]⟩,⟨12,some 52,none,.mov (.t 6),[]⟩,⟨13,some 53,none,.ixs 1 (.t 51) (.t 52),[]⟩,⟨14,some 54,none,.ld (.t 53),[]⟩,⟨15,some 55,none,.call (.c (.func (.func 119) #[] #[])) [.t 46,.t 50,.t 54],[5]⟩,⟨16,some 56,none,.bin .xor (.t 45) (.t 55),[]⟩,⟨17,some 57,none,.ixs 1 (.t 40) (.t 41),[]⟩,⟨18,none,none,.st (.t 57) (.t 56),[]⟩]))) (.ops [⟨0,some 24,none,.mov (.t 8),[]⟩,⟨1,some 25,none,.bin .add (.t 24) (.c (.int .i64 1)),[]⟩,⟨2,some 8,none,.mov (.t 25),[]⟩])))))) (.ops [⟨0,some 58,none,.mov (.t 7),[]⟩,⟨1,some 5,none,.mov (.t 58),[]⟩])))) (.ops [⟨0,some 14,none,.mov (.t 6),[]⟩,⟨1,some 15,none,.bin .add (.t 14) (.c (.int .i64 1)),[]⟩,⟨2,some 6,none,.mov (.t 15),[]⟩])))))) (.seq (.ops [⟨0,some 59,none,.mov (.t 5),[]⟩,⟨1,some 4,none,.mov (.t 59),[]⟩]) .ret)))
attribute [irreducible] c_culletref04_vanishing
theorem run_culletref04_vanishing {args : List Value} {w : World} {K : Value → World → Prop} (hn : args.length ≤ 60) (h : WP Try.prog c_culletref04_vanishing (endQ [.t 4] K) (initT args) w) : CallV Try.prog 117 args w K :=
  call_of follows Try.func117 (by kernel_rfl) (by kernel_rfl) hn h
end Go.Proofs.Ytbaljbadlfopgaa.Fw
namespace Go.Proofs.Ytbaljbadlfopgaa.Fw
open Go Go.Fw
theorem culletref04_vanishing_b_spec (w : World) (s : Value) (l : List (El 8)) (h : Sl w s (l.map em8)) (hb : l.length ≤ 1048576) :
    CallV Try.prog 117 [.bool false, s] w fun v w' => ∃ m : List (El 8), Ow w.heap.size w' v (m.map em8) ∧ m.length = l.length + 1 ∧ co m = vps l ∧ RowKit.Below w.heap.size w w' := by
  refine run_culletref04_vanishing (by simp) ?_
  simp only [c_culletref04_vanishing, WS, ↓reduceIte, Nat.reduceEqDiff, reduceCtorEq]
  have hm : (l.map em8).length = l.length := List.length_map ..
  refine X_bsl (zs := [(⟨1⟩ : El 16)]) (by rfl) (by rfl) fun p0 w1 ho hB => ?_
  simp (maxSteps := 1000000) (disch := omega) only [WS, ↓reduceIte, Nat.reduceEqDiff, reduceCtorEq, AS]
  have h1e : [(⟨1⟩ : El 16)] = [(1 : El 8)].map em8 := rfl
  rw [h1e] at ho
  refine loop_of (fun t w' => t 0 = .bool false ∧ t 1 = s ∧ RowKit.Below w.heap.size w w' ∧ ∃ (i : Nat) (p : Value) (ls : List (El 8)), t 6 = .int .i64 (i : Int) ∧ i ≤ l.length ∧ t 5 = p ∧ Ow w.heap.size w' p (ls.map em8) ∧ ls.length = i + 1 ∧ co ls = vps (l.take i))
    (fun t _ => l.length - (toI (t 6)).toNat) ⟨by simp only [WS, ↓reduceIte, Nat.reduceEqDiff, reduceCtorEq], by simp only [WS, ↓reduceIte, Nat.reduceEqDiff, reduceCtorEq], hB, 0, p0, [1], rfl, by omega, by simp only [WS, ↓reduceIte, Nat.reduceEqDiff, reduceCtorEq], ho, rfl, by
      rw [List.take_zero]
      refine Ps.ext fun k => ?_
      cases k <;> rfl⟩ ?_
  clear ho hB h1e
  rintro t w2 ⟨t0, t1, B, i, p, ls, t6, hi, t5, ho, hll, hc⟩
  have hml : (ls.map em8).length = ls.length := List.length_map ..
  by_cases hlt : i < l.length
  · have hlt2 : i < (l.map em8).length := by omega
    have hg1 : (l.map em8)[i] = em8 l[i] := List.getElem_map ..
    simp (maxSteps := 1000000) (disch := omega) only [WS, ↓reduceIte, Nat.reduceEqDiff, reduceCtorEq, AS, t0, t1, t5, t6, (h.up B).Xlen, hm, ho.sl.Xlen, hml]
    refine X_mks (x := (0 : El 16)) (n := ls.length + 1) (by simp only [maxBytes]; omega) (by omega) fun q w3 oq hC => ?_
    have hz : List.replicate (ls.length + 1) (0 : El 16) = (List.replicate (ls.length + 1) (0 : El 8)).map em8 := by rw [List.map_replicate]; rfl
    rw [hz] at oq
    simp (maxSteps := 1000000) (disch := omega) only [WS, ↓reduceIte, Nat.reduceEqDiff, reduceCtorEq, AS, t0, t1, t5, t6]
    refine loop_of (fun t w' => t 0 = .bool false ∧ t 1 = s ∧ t 5 = p ∧ t 6 = .int .i64 (i : Int) ∧ t 7 = q ∧ RowKit.Below w2.heap.size w2 w' ∧ ∃ (j : Nat) (ms : List (El 8)), t 8 = .int .i64 (j : Int) ∧ j ≤ ls.length ∧ Ow w2.heap.size w' q (ms.map em8) ∧ ms.length = ls.length + 1 ∧ ∀ u, (co ms).c u = (if 1 ≤ u ∧ u - 1 < j then (co ls).c (u - 1) else 0) + (if u < j then (co ls).c u * l[i] else 0))
      (fun t _ => ls.length - (toI (t 8)).toNat) ⟨by simp only [WS, ↓reduceIte, Nat.reduceEqDiff, reduceCtorEq]; exact t0, by simp only [WS, ↓reduceIte, Nat.reduceEqDiff, reduceCtorEq]; exact t1, by simp only [WS, ↓reduceIte, Nat.reduceEqDiff, reduceCtorEq]; exact t5, by simp only [WS, ↓reduceIte, Nat.reduceEqDiff, reduceCtorEq]; exact t6, by simp only [WS, ↓reduceIte, Nat.reduceEqDiff, reduceCtorEq], hC, 0, _, rfl, by omega, oq, List.length_replicate .., fun u => by rw [co_replicate, if_neg (by omega), if_neg (by omega), El.add_zero]; rfl⟩ ?_
    clear t0 t1 t5 t6 oq hC hz
    rintro t w4 ⟨t0, t1, t5, t6, t7, C, j, ms, t8, hj, om, hms, hmc⟩
    have pl := (ho.up C).sl
    by_cases hjl : j < ls.length
    · have jl : j < (ls.map em8).length := by omega
      have j1 : j + 1 < ms.length := by omega
      have j0 : j < ms.length := by omega
      have j1m : j + 1 < (ms.map em8).length := by rw [List.length_map]; exact j1
      have e1 : (ms.map em8)[j + 1] = em8 ms[j + 1] := List.getElem_map ..
      have e2 : (ls.map em8)[j] = em8 ls[j] := List.getElem_map ..
      simp (maxSteps := 1000000) (disch := omega) only [WS, ↓reduceIte, Nat.reduceEqDiff, reduceCtorEq, AS, t0, t1, t5, t6, t7, t8, pl.Xlen, hml]
      refine WP_dops ?_
      have o1 := om.sl.drew
      have p1 := pl.drew
      simp (maxSteps := 1000000) (disch := omega) only [ES, List.mem_cons, List.not_mem_nil, implies_true, forall_const, WS, ↓reduceIte, Nat.reduceEqDiff, reduceCtorEq, AS, t0, t1, t5, t6, t7, t8, o1.Eix j1m, o1.Eld j1m, p1.Eix jl, p1.Eld jl, e1, e2, cell_e16, xor16, em8_add]
      refine Ow.Est om.drew j1m (em8 (ms[j + 1] + ls[j])) fun w5 om5 hg5 => ?_
      rw [← List.map_set] at om5
      have C := C.grown (grown_of_drew hg5) C.size fun b hb => (om.blk b hb).1
      have lset : ((ms.set (j + 1) (ms[j + 1] + ls[j])).map em8).length = ms.length := by rw [List.length_map, List.length_set]
      have j0m : j < ((ms.set (j + 1) (ms[j + 1] + ls[j])).map em8).length := by omega
      have e3 : ((ms.set (j + 1) (ms[j + 1] + ls[j])).map em8)[j] = em8 ms[j] := by rw [List.getElem_map, List.getElem_set_ne (by omega)]
      have pl := (ho.up C).sl
      have hl1 := h.up (B.trans (C.mono B.size))
      simp (maxSteps := 1000000) (disch := omega) only [ES, List.mem_cons, List.not_mem_nil, implies_true, forall_const, WS, ↓reduceIte, Nat.reduceEqDiff, reduceCtorEq, AS, t0, t1, t5, t6, t7, t8]
      refine WP_dops ?_
      have o2 := om5.sl.drew
      have p2 := pl.drew
      have h2 := hl1.drew
      have see : Fw.sees Try.prog (.ld (.c (elP q j))) w5.drew (.int .u16 ((em8 ms[j]).v.toNat : Int)) = True := by rw [← e3]; exact o2.sees j0m Try.prog
      simp (maxSteps := 1000000) (disch := omega) only [ES, List.mem_cons, List.not_mem_nil, implies_true, forall_const, WS, ↓reduceIte, Nat.reduceEqDiff, reduceCtorEq, AS, t0, t1, t5, t6, t7, t8, o2.Eix j0m, o2.Eld j0m, p2.Eix jl, p2.Eld jl, h2.Eix hlt2, h2.Eld hlt2, hg1, e2, e3, cell_e16]
      refine E_call0 ((culletref04_timesx_b_spec w5.drew ls[j] l[i]).mono ?_)
      rintro _ w6 ⟨rfl, rfl⟩
      simp (maxSteps := 1000000) (disch := omega) only [ES, List.mem_cons, List.not_mem_nil, implies_true, forall_const, WS, ↓reduceIte, Nat.reduceEqDiff, reduceCtorEq, AS, t0, t1, t5, t6, t7, t8, see, o2.Eix j0m, xor16, em8_add]
      refine Ow.Est om5.drew j0m (em8 (ms[j] + ls[j] * l[i])) fun w7 om7 hg7 => ?_
      rw [← List.map_set] at om7
      simp (maxSteps := 1000000) (disch := omega) only [ES, List.mem_cons, List.not_mem_nil, implies_true, forall_const, WS, ↓reduceIte, Nat.reduceEqDiff, reduceCtorEq, AS, t0, t1, t5, t6, t7, t8]
      refine ⟨⟨C.grown (grown_of_drew hg7) C.size fun b hb => (om5.blk b hb).1, j + 1, _, rfl, by omega, om7, by rw [List.length_set, List.length_set]; exact hms, fun u => ?_⟩, by omega⟩
      rw [co_set _ (by rw [List.length_set]; exact j0), co_set _ j1, hmc u]
      have g0 := hmc j
      have g1 := hmc (j + 1)
      rw [co_get ms j0, if_neg (by omega : ¬ j < j), El.add_zero] at g0
      rw [co_get ms j1, if_neg (by omega), if_neg (by omega), El.add_zero] at g1
      by_cases hu : u = j
      · subst hu
        rw [if_pos rfl, g0, co_get ls hjl]
        by_cases h1 : 1 ≤ u
        · rw [if_pos ⟨h1, by omega⟩, if_pos ⟨h1, by omega⟩, if_pos (by omega)]
        · rw [if_neg (by omega), if_neg (by omega), if_pos (by omega)]
      · rw [if_neg hu]
        by_cases hu1 : u = j + 1
        · subst hu1
          rw [if_pos rfl, g1, El.zero_add, if_pos ⟨by omega, by omega⟩, if_neg (by omega), El.add_zero, Nat.add_sub_cancel, co_get ls hjl]
        · rw [if_neg hu1]
          have q1 : (1 ≤ u ∧ u - 1 < j + 1) = (1 ≤ u ∧ u - 1 < j) := propext ⟨fun h => by omega, fun h => by omega⟩
          have q2 : (u < j + 1) = (u < j) := propext ⟨fun h => by omega, fun h => by omega⟩
          simp only [q1, q2]
    · obtain rfl : j = ls.length := by omega
      simp (maxSteps := 1000000) (disch := omega) only [WS, ↓reduceIte, Nat.reduceEqDiff, reduceCtorEq, AS, t0, t1, t5, t6, t7, t8, pl.Xlen, hml]
      refine ⟨⟨B.trans (C.mono B.size), i + 1, q, ms, rfl, by omega, rfl, om.mono B.size, by omega, ?_⟩, by omega⟩
      rw [vps_take l hlt, ← hc]
      refine Ps.ext fun u => ?_
      rw [hmc u, lin_mul, El.add_comm]
      congr 1
      · by_cases hu : u < ls.length
        · rw [if_pos hu, El.mul_comm]
        · rw [if_neg hu, co_dg ls u (by omega), El.mul_zero]
      · by_cases hu : u = 0
        · rw [if_neg (by omega), if_pos hu]
        · rw [if_neg hu]
          by_cases hu2 : u - 1 < ls.length
          · rw [if_pos ⟨by omega, hu2⟩]
          · rw [if_neg (by omega), co_dg ls (u - 1) (by omega)]
  · obtain rfl : i = l.length := by omega
    rw [List.take_length] at hc
    simp (maxSteps := 1000000) (disch := omega) only [WS, ↓reduceIte, Nat.reduceEqDiff, reduceCtorEq, AS, t0, t1, t5, t6, (h.up B).Xlen, hm]
    exact ⟨ls, ho, hll, hc, B⟩
end Go.Proofs.Ytbaljbadlfopgaa.Fw

set_option linter.unusedVariables false
set_option linter.unusedSimpArgs false
set_option maxRecDepth 100000
set_option maxHeartbeats 1000000
namespace Go.Proofs.Ytbaljbadlfopgaa.Fw
open Go Go.Fw Go.Proofs
attribute [local irreducible] stepI

end Go.Proofs.Ytbaljbadlfopgaa.Fw
namespace Go.Proofs.Ytbaljbadlfopgaa.Fw
open Go Go.Fw
theorem rep_facts (n : Nat) : ∃ S0 : List Bool, S0.length = n ∧ (∀ v, S0.getD v false = false) ∧ List.replicate n (Value.bool false) = S0.map Cell.v := by
  refine ⟨List.replicate n false, List.length_replicate, fun v => ?_, by rw [List.map_replicate]; rfl⟩
  rw [List.getD_eq_getElem?_getD, List.getElem?_replicate]
  split <;> rfl
end Go.Proofs.Ytbaljbadlfopgaa.Fw

set_option linter.unusedVariables false
set_option linter.unusedSimpArgs false
set_option maxRecDepth 100000
set_option maxHeartbeats 1000000
namespace Go.Proofs.Ytbaljbadlfopgaa.Fw
open Go Go.Fw Go.Proofs
attribute [local irreducible] stepI
def c_culletref04_Interpolate : C := .seq (.ops [⟨0,some 6,none,.mov (.c (.slice none 0 0)),[]⟩,⟨1,some 7,none,.mov (.c (.int .i64 0)),[]⟩]) (.seq (.ops [⟨0,some 18,none,.mov (.t 1),[]⟩,⟨1,some 19,none,.len (.t 18),[]⟩,⟨2,some 8,none,.mov (.t 19),[]⟩]) (.seq (.seq (.ops [⟨0,some 20,none,.mov (.t 8),[]⟩,⟨1,some 21,none,.bin .gtr (.t 20) (.c (.int .i64 1024)),[]⟩,⟨2,some 22,none,.mov (.t 21),[]⟩,⟨3,some 23,(some (22,false)),.mov (.t 2),[]⟩,⟨4,some 24,(some (22,false)),.len (.t 23),[]⟩,⟨5,some 25,(some (22,false)),.bin .gtr (.t 24) (.c (.int .i64 1024)),[]⟩,⟨6,some 26,none,.pick (.t 22) (.c (.bool true)) (.t 25),[]⟩]) (.ite (.t 26) (.seq (.ops [⟨0,some 6,none,.mov (.c (.slice none 0 0)),[]⟩,⟨1,some 7,none,.mov (.c (.int .i64 5)),[]⟩]) .ret) .skip)) (.seq (.seq (.ops [⟨0,some 27,none,.mov (.t 8),[]⟩,⟨1,some 28,none,.mov (.t 2),[]⟩,⟨2,some 29,none,.len (.t 28),[]⟩,⟨3,some 30,none,.bin .neq (.t 27) (.t 29),[]⟩]) (.ite (.t 30) (.seq (.ops [⟨0,some 6,none,.mov (.c (.slice none 0 0)),[]⟩,⟨1,some 7,none,.mov (.c (.int .i64 6)),[]⟩]) .ret) .skip)) (.seq (.ops [⟨0,some 9,none,.alloc 191 (List.replicate 65536 (.bool false)),[]⟩]) (.seq (.seq (.ops [⟨0,some 10,none,.mov (.c (.int .i64 0)),[]⟩]) (.block 0 (.loop (.seq (.seq (.ops [⟨0,some 31,none,.mov (.t 10),[]⟩,⟨1,some 32,none,.mov (.t 8),[]⟩,⟨2,some 33,none,.bin .lss (.t 31) (.t 32),[]⟩]) (.ite (.t 33) .skip (.exit 0))) (.seq (.block 1 (.seq (.seq (.ops [⟨0,some 36,none,.mov (.t 1),[]⟩,⟨1,some 37,none,.mov (.t 10),[]⟩,⟨2,some 38,none,.ixs 1 (.t 36) (.t 37),[]⟩,⟨3,some 39,none,.ld (.t 38),[]⟩,⟨4,some 40,none,.ixa 65536 1 (.t 9) (.t 39),[]⟩,⟨5,some 41,none,.ld (.t 40),[]⟩]) (.ite (.t 41) (.seq (.ops [⟨0,some 6,none,.mov (.c (.slice none 0 0)),[]⟩,⟨1,some 7,none,.mov (.c (.int .i64 41)),[]⟩]) .ret) .skip)) (.ops [⟨0,some 42,none,.mov (.t 1),[]⟩,⟨1,some 43,none,.mov (.t 10),[]⟩,⟨2,some 44,none,.ixs 1 (.t 42) (.t 43),[]⟩,⟨3,some 45,none,.ld (.t 44),[]⟩,⟨4,some 46,none,.ixa 65536 1 (.t 9) (.t 45),[]⟩,⟨5,none,none,.st (.t 46) (.c (.bool true)),[]⟩]))) (.ops [⟨0,some 34,none,.mov (.t 10),[]⟩,⟨1,some 35,none,.bin .add (.t 34) (.c (.int .i64 1)),[]⟩,⟨2,some 10,none,.mov (.t 35),[]⟩])))))) (.seq (.ops [⟨0,some 47,none,.mov (.t 0),[]⟩,⟨1,some 48,none,.mov (.t 1),[]⟩,⟨2,some 49,none,.call (.c (.func (.func 117) #[] #[])) [.t 47,.t 48],[]⟩,⟨3,some 11,none,.mov (.t 49),[]⟩]) (.seq (.ops [⟨0,some 50,none,.mov (.t 8),[]⟩,⟨1,some 51,none,.mks 73 2 [.int .u16 0] (.t 50) (.t 50),[]⟩,⟨2,some 12,none,.mov (.t 51),[]⟩]) (.seq (.seq (.ops [⟨0,some 13,none,.mov (.c (.int .i64 0)),[]⟩]) (.block 2 (.loop (.seq (.seq (.ops [⟨0,some 52,none,.mov (.t 13),[]⟩,⟨1,some 53,none,.mov (.t 8),[]⟩,⟨2,some 54,none,.bin .lss (.t 52) (.t 53),[]⟩]) (.ite (.t 54) .skip (.exit 2))) (.seq (.block 3 (.seq (.seq (.ops [⟨0,some 57,none,.mov (.t 2),[]⟩,⟨1,some 58,none,.mov (.t 13),[]⟩,⟨2,some 59,none,.ixs 1 (.t 57) (.t 58),[]⟩,⟨3,some 60,none,.ld (.t 59),[]⟩,⟨4,some 61,none,.bin .eql (.t 60) (.c (.int .u16 0)),[]⟩]) (.ite (.t 61) (.exit 3) .skip)) (.seq (.ops [⟨0,some 63,none,.mov (.t 0),[]⟩,⟨1,some 64,none,.mov (.t 11),[]⟩,⟨2,some 65,none,.mov (.t 1),[]⟩,⟨3,some 66,none,.mov (.t 13),[]⟩,⟨4,some 67,none,.ixs 1 (.t 65) (.t 66),[]⟩,⟨5,some 68,none,.ld (.t 67),[]⟩,⟨6,some 69,none,.bsl 73 2 [.int .u16 0] [(0,(1,.t 68)),(1,(1,.c (.int .u16 1)))],[]⟩,⟨7,some 70,none,.call (.c (.func (.func 118) #[] #[])) [.t 63,.t 64,.t 69],[]⟩,⟨8,some 62,none,.mov (.t 70),[]⟩,⟨9,some 71,none,.ext (.t 62) 0,[]⟩,⟨10,some 72,none,.ext (.t 62) 1,[]⟩,⟨11,some 14,none,.mov (.t 71),[]⟩,⟨12,some 15,none,.mov (.t 72),[]⟩]) (.seq (.dops [⟨0,some 73,none,.mov (.t 0),[]⟩,⟨1,some 74,none,.mov (.t 2),[]⟩,⟨2,some 75,none,.mov (.t 13),[]⟩,⟨3,some 76,none,.ixs 1 (.t 74) (.t 75),[]⟩,⟨4,some 77,none,.ld (.t 76),[]⟩,⟨5,some 78,none,.mov (.t 0),[]⟩,⟨6,some 79,none,.mov (.t 0),[]⟩,⟨7,some 80,none,.mov (.t 14),[]⟩,⟨8,some 81,none,.mov (.t 1),[]⟩,⟨9,some 82,none,.mov (.t 13),[]⟩,⟨10,some 83,none,.ixs 1 (.t 81) (.t 82),[]⟩,⟨11,some 84,none,.ld (.t 83),[]⟩,⟨12,some 85,none,.call (.c (.func (.func 121) #[] #[])) [.t 79,.t 80,.t 84],[4]⟩,⟨13,some 86,none,.call (.c (.func (.func 120) #[] #[])) [.t 78,.t 85],[4]⟩,⟨14,some 87,none,.call (.c (.func (.func 119) #[] #[])) [.t 73,.t 77,.t 86],[]⟩,⟨15,some 16,none,.mov (.t 87),[]⟩]) (.seq (.ops [⟨0,some 17,none,.mov (.c (.int .i64 0)),[]⟩]) (.block 4 (.loop (.seq (.seq (.ops [⟨0,some 88,none,.mov (.t 17),[]⟩,⟨1,some 89,none,.mov (.t 8),[]⟩,⟨2,some 90,none,.bin .lss (.t 88) (.t 89),[]⟩]) (.ite (.t 90) .skip (.exit 4))) (.seq (.block 5 (.dops [⟨0,some 93,none,.mov (.t 12),[]⟩,⟨1,some 94,none,.mov (.t 17),[]⟩,⟨2,some 95,none,.mov (.t 12),[]⟩,⟨3,some 96,none,.mov (.t 17),[]⟩,⟨4,some 97,none,.ixs 1 (.t 95) (.t 96),[]⟩,⟨5,some 98,none,.ld (.t 97),[]⟩,⟨6,some 99,none,.mov (.t 0),[]⟩,⟨7,some 100,none,.mov (.t 16),[]⟩,⟨8,some 101,none,.mov (.t 14),[]⟩,⟨9,some 102,none,.mov (.t 17),[]⟩,⟨10,some 103,none,.ixs 1 (.t 101) (.t 102),[]⟩,⟨11,some 104,none,.ld (.t 103),[]⟩,⟨12,some 105,none,.call (.c (.func (.func 119) #[] #[])) [.t 99,.t 100,.t 104],[5]⟩,⟨13,some 106,none,.bin .xor (.t 98) (.t 105),[]⟩,⟨14,some 107,none,.ixs 1 (.t 93) (.t 94),[]⟩,⟨15,none,none,.st (.t 107) (.t 106),[]⟩])) (.ops [⟨0,some 91,none,.mov (.t 17),[]⟩,⟨1,some 92,none,.bin .add (.t 91) (.c (.int .i64 1)),[]⟩,⟨2,some 17,none,.mov (.t 92),[]⟩])))))))))) (.ops [⟨0,some 55,none,.mov (.t 13),[]⟩,⟨1,some 56,none,.bin .add (.t 55) (.c (.int .i64 1)),[]⟩,⟨2,some 13,none,.mov (.t 56),[]⟩])))))) (.seq (.ops [⟨0,some 108,none,.mov (.t 12),[]⟩,⟨1,some 109,none,.call (.c (.func (.func 122) #[] #[])) [.t 108],[]⟩,⟨2,some 6,none,.mov (.t 109),[]⟩,⟨3,some 7,none,.mov (.c (.int .i64 0)),[]⟩]) .ret)))))))))
attribute [irreducible] c_culletref04_Interpolate
theorem run_culletref04_Interpolate {args : List Value} {w : World} {K : Value → World → Prop} (hn : args.length ≤ 110) (h : WP Try.prog c_culletref04_Interpolate (endQ [.t 6, .t 7] K) (initT args) w) : CallV Try.prog 81 args w K :=
  call_of follows Try.func81 (by kernel_rfl) (by kernel_rfl) hn h
end Go.Proofs.Ytbaljbadlfopgaa.Fw
namespace Go.Proofs.Ytbaljbadlfopgaa.Fw
open Go Go.Fw
theorem culletref04_Interpolate_b_spec (w : World) (s1 s2 : Value) (l1 l2 : List (El 8)) (h1 : Sl w s1 (l1.map em8)) (h2 : Sl w s2 (l2.map em8)) (hb1 : l1.length ≤ 70368744175616) (hb2 : l2.length ≤ 70368744175616) :
    CallV Try.prog 81 [.bool false, s1, s2] w fun v w' => RowKit.Below w.heap.size w w' ∧
      ((l1.length ≤ 1024 ∧ l2.length ≤ 1024 ∧ l2.length = l1.length ∧ (∀ a b, a < l1.length → b < l1.length → l1.getD a 0 = l1.getD b 0 → a = b) ∧ ∃ (s : Value) (m : List (El 8)), v = .tuple #[s, .int .i64 0] ∧ Ow w.heap.size w' s (m.map em8) ∧ tr m = m ∧ m.length ≤ l1.length ∧ ∀ j, j < l1.length → evl m (l1.getD j 0) = l2.getD j 0) ∨
       (l1.length ≤ 1024 ∧ l2.length ≤ 1024 ∧ l2.length ≠ l1.length ∧ v = .tuple #[.slice none 0 0, .int .i64 6]) ∨
       (l1.length ≤ 1024 ∧ l2.length ≤ 1024 ∧ l2.length = l1.length ∧ ¬ (∀ a b, a < l1.length → b < l1.length → l1.getD a 0 = l1.getD b 0 → a = b) ∧ v = .tuple #[.slice none 0 0, .int .i64 41]) ∨
       (¬ (l1.length ≤ 1024 ∧ l2.length ≤ 1024) ∧ v = .tuple #[.slice none 0 0, .int .i64 5])) := by
  have hm1 : (l1.map em8).length = l1.length := List.length_map ..
  have hm2 : (l2.map em8).length = l2.length := List.length_map ..
  obtain ⟨S0, hS0l, hS0z, hzS⟩ := rep_facts 65536
  refine run_culletref04_Interpolate (by simp) ?_
  unfold c_culletref04_Interpolate
  generalize hZ : List.replicate 65536 (Value.bool false) = z at hzS
  clear hZ
  subst hzS
  simp only [WS, ↓reduceIte, Nat.reduceEqDiff, reduceCtorEq]
  by_cases z1 : l1.length ≤ 1024
  rotate_left
  · simp (maxSteps := 1000000) (disch := omega) only [WS, ↓reduceIte, Nat.reduceEqDiff, reduceCtorEq, AS, h1.Xlen, hm1]
    exact ⟨RowKit.Below.refl _ _, Or.inr (Or.inr (Or.inr (fun e => z1 e.1)))⟩
  by_cases z2 : l2.length ≤ 1024
  rotate_left
  · simp (maxSteps := 1000000) (disch := omega) only [WS, ↓reduceIte, Nat.reduceEqDiff, reduceCtorEq, AS, h1.Xlen, hm1, h2.Xlen, hm2]
    exact ⟨RowKit.Below.refl _ _, Or.inr (Or.inr (Or.inr (fun e => z2 e.2)))⟩
  by_cases hlen : l2.length = l1.length
  rotate_left
  · simp (maxSteps := 1000000) (disch := omega) only [WS, ↓reduceIte, Nat.reduceEqDiff, reduceCtorEq, AS, h1.Xlen, hm1, h2.Xlen, hm2]
    exact ⟨RowKit.Below.refl _ _, Or.inr (Or.inl ⟨z1, z2, hlen⟩)⟩
  simp (maxSteps := 1000000) (disch := omega) only [WS, ↓reduceIte, Nat.reduceEqDiff, reduceCtorEq, AS, h1.Xlen, hm1, h2.Xlen, hm2, hlen, show ∀ e : Int, decide (e = e) = true from fun e => decide_eq_true rfl]
  refine X_alloc fun sb w1 hr hsb hB => ?_
  simp (maxSteps := 1000000) (disch := omega) only [WS, ↓reduceIte, Nat.reduceEqDiff, reduceCtorEq, AS]
  refine loop_of (fun t w' => t 0 = .bool false ∧ t 1 = s1 ∧ t 2 = s2 ∧ t 8 = .int .i64 (l1.length : Int) ∧ t 9 = .pointer (some ⟨sb, 0, none⟩) ∧ RowKit.Below w.heap.size w w' ∧ ∃ (i : Nat) (S : List Bool), t 10 = .int .i64 (i : Int) ∧ i ≤ l1.length ∧ S.length = 65536 ∧ Row w' sb (S.map Cell.v) ∧ (∀ j, j < i → S.getD (em8 (l1.getD j 0)).v.toNat false = true) ∧ (∀ n : Nat, (∀ j, j < i → (em8 (l1.getD j 0)).v.toNat ≠ n) → S.getD n false = false) ∧ ∀ a b, a < i → b < i → l1.getD a 0 = l1.getD b 0 → a = b)
    (fun t _ => l1.length - (toI (t 10)).toNat) ⟨by simp only [WS, ↓reduceIte, Nat.reduceEqDiff, reduceCtorEq], by simp only [WS, ↓reduceIte, Nat.reduceEqDiff, reduceCtorEq], by simp only [WS, ↓reduceIte, Nat.reduceEqDiff, reduceCtorEq], by simp only [WS, ↓reduceIte, Nat.reduceEqDiff, reduceCtorEq], by simp only [WS, ↓reduceIte, Nat.reduceEqDiff, reduceCtorEq], hB, 0, S0, rfl, by omega, hS0l, hr, fun j hj => by omega, fun n _ => hS0z n, fun a b ha => by omega⟩ ?_
  clear hB hr hS0l hS0z
  rintro t w2 ⟨t0, t1, t2, t8, t9, B, i, S, t10, hi, lS, hr, hf1, hf0, hnd⟩
  by_cases hlt : i < l1.length
  · have g1 := h1.up B
    have hlt2 : i < (l1.map em8).length := by omega
    have hg1 : (l1.map em8)[i] = em8 l1[i] := List.getElem_map ..
    have gx : l1.getD i 0 = l1[i] := by rw [List.getD_eq_getElem?_getD, List.getElem?_eq_getElem hlt]; rfl
    obtain ⟨n, hn⟩ : ∃ n, n = (em8 l1[i]).v.toNat := ⟨_, rfl⟩
    have hnl : n < 65536 := by rw [hn]; exact (em8 l1[i]).v.isLt
    have nS : n < (S.map (Cell.v : Bool → Value)).length := by rw [List.length_map, lS]; exact hnl
    have gS : (S.map (Cell.v : Bool → Value))[n] = .bool (S.getD n false) := by rw [List.getElem_map, List.getD_eq_getElem?_getD, List.getElem?_eq_getElem (by omega)]; rfl
    by_cases hin : ∃ j, j < i ∧ l1.getD j 0 = l1.getD i 0
    · obtain ⟨j, hj, hje⟩ := hin
      have hv : S.getD n false = true := by rw [hn, ← gx, ← hje]; exact hf1 j hj
      simp (maxSteps := 1000000) (disch := omega) only [WS, ↓reduceIte, Nat.reduceEqDiff, reduceCtorEq, AS, t0, t1, t2, t8, t9, t10, g1.Xix hlt2, g1.Xld hlt2, hg1, cell_e16, ← hn, X_ixa hnl, addr_add0, Nat.zero_add, Nat.mul_one, hr.Xld nS, gS, hv]
      exact ⟨B, Or.inr (Or.inr (Or.inl ⟨z1, z1, fun hall => by have := hall j i (by omega) hlt hje; omega⟩))⟩
    · have hno : ∀ j, j < i → (em8 (l1.getD j 0)).v.toNat ≠ n := fun j hj e => hin ⟨j, hj, by
        rw [gx]
        rw [hn] at e
        exact em8_inj (El.ext (BitVec.eq_of_toNat_eq e))⟩
      have hv : S.getD n false = false := hf0 n hno
      simp (maxSteps := 1000000) (disch := omega) only [WS, ↓reduceIte, Nat.reduceEqDiff, reduceCtorEq, AS, t0, t1, t2, t8, t9, t10, g1.Xix hlt2, g1.Xld hlt2, hg1, cell_e16, ← hn, X_ixa hnl, addr_add0, Nat.zero_add, Nat.mul_one, hr.Xld nS, gS, hv]
      refine hr.Xst nS (v := .bool true) rfl fun w3 hr3 hg => ?_
      have hset : (S.map (Cell.v : Bool → Value)).set n (.bool true) = (S.set n true).map Cell.v := by rw [List.map_set]; rfl
      rw [hset] at hr3
      have nS' : n < S.length := by omega
      simp (maxSteps := 1000000) (disch := omega) only [WS, ↓reduceIte, Nat.reduceEqDiff, reduceCtorEq, AS, t0, t1, t2, t8, t9, t10]
      refine ⟨⟨B.grown hg B.size (fun b hb => by cases hb; exact hsb), i + 1, _, rfl, by omega, by rw [List.length_set]; exact lS, hr3, fun j hj => ?_, fun m hm => ?_, fun a b ha hb e => ?_⟩, by omega⟩
      · rw [getD_setD S nS']
        by_cases hji : j = i
        · subst hji; rw [if_pos (by rw [gx, hn])]
        · rw [if_neg (hno j (by omega))]; exact hf1 j (by omega)
      · rw [getD_setD S nS', if_neg (fun e => hm i (by omega) (by rw [gx, ← hn, e]))]
        exact hf0 m fun j hj => hm j (by omega)
      · by_cases hai : a = i
        · by_cases hbi : b = i
          · rw [hai, hbi]
          · exact absurd ⟨b, by omega, by rw [← hai]; exact e.symm⟩ hin
        · by_cases hbi : b = i
          · exact absurd ⟨a, by omega, by rw [← hbi]; exact e⟩ hin
          · exact hnd a b (by omega) (by omega) e
  obtain rfl : i = l1.length := by omega
  clear hr hf1 hf0 lS
  simp (maxSteps := 1000000) (disch := omega) only [WS, ↓reduceIte, Nat.reduceEqDiff, reduceCtorEq, AS, t0, t1, t2, t8, t9, t10]
  refine X_call0 ((culletref04_vanishing_b_spec w2 s1 l1 (h1.up B) (by omega)).mono ?_)
  rintro sa w3 ⟨A, oA, lA, cA, hB⟩
  have B := B.trans (hB.mono B.size)
  clear hB
  have oA := oA.sl
  have g1 := h1.up B
  have g2 := h2.up B
  clear h1 h2
  simp (maxSteps := 1000000) (disch := omega) only [WS, ↓reduceIte, Nat.reduceEqDiff, reduceCtorEq, AS, t0, t1, t2, t8]
  refine X_mks (x := (0 : El 16)) (by simp only [maxBytes]; omega) (by omega) fun su w4 ou C => ?_
  have hz : List.replicate l1.length (0 : El 16) = (List.replicate l1.length (0 : El 8)).map em8 := by rw [List.map_replicate]; rfl
  rw [hz] at ou
  simp (maxSteps := 1000000) (disch := omega) only [WS, ↓reduceIte, Nat.reduceEqDiff, reduceCtorEq, AS, t0, t1, t2, t8]
  refine loop_of (fun t w' => t 0 = .bool false ∧ t 1 = s1 ∧ t 2 = s2 ∧ t 8 = .int .i64 (l1.length : Int) ∧ t 11 = sa ∧ t 12 = su ∧ RowKit.Below w3.heap.size w3 w' ∧ ∃ (i : Nat) (ls : List (El 8)), t 13 = .int .i64 (i : Int) ∧ i ≤ l1.length ∧ Ow w3.heap.size w' su (ls.map em8) ∧ ls.length = l1.length ∧ ∀ j, j < l1.length → evl ls (l1.getD j 0) = if j < i then l2.getD j 0 else 0)
    (fun t _ => l1.length - (toI (t 13)).toNat) ⟨by simp only [WS, ↓reduceIte, Nat.reduceEqDiff, reduceCtorEq]; exact t0, by simp only [WS, ↓reduceIte, Nat.reduceEqDiff, reduceCtorEq]; exact t1, by simp only [WS, ↓reduceIte, Nat.reduceEqDiff, reduceCtorEq]; exact t2, by simp only [WS, ↓reduceIte, Nat.reduceEqDiff, reduceCtorEq]; exact t8, by simp only [WS, ↓reduceIte, Nat.reduceEqDiff, reduceCtorEq], by simp only [WS, ↓reduceIte, Nat.reduceEqDiff, reduceCtorEq], C, 0, _, rfl, by omega, ou, List.length_replicate .., fun j hj => by rw [if_neg (by omega), evl_co, co_replicate, evn_zero]⟩ ?_
  clear t0 t1 t2 t8 t9 t10 C ou hz hi
  rintro t w5 ⟨t0, t1, t2, t8, t11, t12, C, i, ls, t13, hi, ou, lls, hv⟩
  by_cases hlt : i < l1.length
  · have i2 : i < l2.length := by omega
    have i1m : i < (l1.map em8).length := by omega
    have i2m : i < (l2.map em8).length := by omega
    have e1 : (l1.map em8)[i] = em8 l1[i] := List.getElem_map ..
    have e2 : (l2.map em8)[i] = em8 l2[i] := List.getElem_map ..
    have gx : l1.getD i 0 = l1[i] := by rw [List.getD_eq_getElem?_getD, List.getElem?_eq_getElem hlt]; rfl
    have gy : l2.getD i 0 = l2[i] := by rw [List.getD_eq_getElem?_getD, List.getElem?_eq_getElem i2]; rfl
    by_cases hy : l2[i] = 0
    · have d1 : decide (((em8 l2[i]).v.toNat : Int) = 0) = true := decide_eq_true ((em8_wz _).mpr hy)
      simp (maxSteps := 1000000) (disch := omega) only [WS, ↓reduceIte, Nat.reduceEqDiff, reduceCtorEq, AS, t0, t1, t2, t8, t11, t12, t13, (g2.up C).Xix i2m, (g2.up C).Xld i2m, e2, cell_e16, d1]
      exact ⟨⟨C, i + 1, ls, rfl, by omega, ou, lls, lag_skip (Y := fun j => l2.getD j 0) (by rw [gy]; exact hy) hv⟩, by omega⟩
    · have d1 : decide (((em8 l2[i]).v.toNat : Int) = 0) = false := decide_eq_false (fun e => hy ((em8_wz _).mp e))
      simp (maxSteps := 1000000) (disch := omega) only [WS, ↓reduceIte, Nat.reduceEqDiff, reduceCtorEq, AS, t0, t1, t2, t8, t11, t12, t13, (g2.up C).Xix i2m, (g2.up C).Xld i2m, e2, cell_e16, d1, (g1.up C).Xix i1m, (g1.up C).Xld i1m, e1]
      refine X_bsl (zs := [em8 l1[i], (⟨1⟩ : El 16)]) (by rfl) (by rfl) fun sx w6 ox hB => ?_
      have hx1 : [em8 l1[i], (⟨1⟩ : El 16)] = [l1[i], (1 : El 8)].map em8 := rfl
      rw [hx1] at ox
      have C6 := C.trans (hB.mono C.size)
      have ou6 := ou.up hB
      have sub6 : ∀ b, Fw.blk su = some b → b < w6.heap.size := fun b hb => (ou6.blk b hb).2
      clear hB
      simp (maxSteps := 1000000) (disch := omega) only [WS, ↓reduceIte, Nat.reduceEqDiff, reduceCtorEq, AS, t0, t1, t2, t8, t11, t12, t13]
      refine X_call0 ((culletref04_divide_b_spec w6 sa sx A [l1[i], 1] (oA.up C6) ox.sl (by omega) (by simp) (by rw [tln_lin]; omega)).mono ?_)
      rintro _ w7 ⟨sq, sm, q, m, rfl, oq, om, tq, tm, hco, hml, -, hql, hB⟩
      have C7 := C6.trans (hB.mono C6.size)
      have ou7 := ou6.up hB
      have hne : Fw.blk sq ≠ Fw.blk su := by
        intro e
        cases hb : Fw.blk sq with
        | none =>
          rw [hb] at e
          have := (ou7.sl.blk_lt (by intro e; have h := congrArg List.length e; rw [List.length_map, List.length_nil] at h; omega))
          obtain ⟨b, hb2, -⟩ := this
          rw [hb2] at e; cases e
        | some b =>
          have h1 := (oq.blk b hb).1
          have h2 := sub6 b (e.symm.trans hb)
          omega
      have oq := oq.sl
      rw [cA, co_lin] at hco
      rw [tln_lin] at hml
      obtain ⟨lq, q0, qo⟩ := oth hlt hnd tq tm hco hml
      clear hB om ox ou6 C6 sub6 C ou
      simp (maxSteps := 1000000) (disch := omega) only [WS, ↓reduceIte, Nat.reduceEqDiff, reduceCtorEq, AS, t0, t1, t2, t8, t11, t12, t13]
      refine WP_dops ?_
      have p1 := (g1.up C7).drew
      have p2 := (g2.up C7).drew
      have pq := oq.drew
      have see2 : Fw.sees Try.prog (.ld (.c (elP s2 i))) w7.drew (.int .u16 ((em8 l2[i]).v.toNat : Int)) = True := by rw [← e2]; exact p2.sees i2m Try.prog
      simp (maxSteps := 1000000) (disch := omega) only [ES, List.mem_cons, List.not_mem_nil, implies_true, forall_const, WS, ↓reduceIte, Nat.reduceEqDiff, reduceCtorEq, AS, t0, t1, t2, t8, t11, t12, t13, p1.Eix i1m, p1.Eld i1m, p2.Eix i2m, p2.Eld i2m, e1, e2, cell_e16]
      refine E_call0 ((culletref04_Eval_b_spec w7.drew sq q l1[i] pq (by omega)).mono ?_)
      rintro _ w8 ⟨rfl, rfl⟩
      simp (maxSteps := 1000000) (disch := omega) only [ES, List.mem_cons, List.not_mem_nil, implies_true, forall_const, WS, ↓reduceIte, Nat.reduceEqDiff, reduceCtorEq, AS, t0, t1, t2, t8, t11, t12, t13, see2]
      refine E_call0 ((culletref04_inverse_b_spec w7.drew (evl q l1[i]) q0).mono ?_)
      rintro _ w9 ⟨rfl, rfl⟩
      simp (maxSteps := 1000000) (disch := omega) only [ES, List.mem_cons, List.not_mem_nil, implies_true, forall_const, WS, ↓reduceIte, Nat.reduceEqDiff, reduceCtorEq, AS, t0, t1, t2, t8, t11, t12, t13, see2]
      refine E_call0 ((culletref04_timesx_b_spec w7.drew l2[i] (evl q l1[i]).inv).mono ?_)
      rintro _ w10 ⟨rfl, rfl⟩
      generalize hc : l2[i] * (evl q l1[i]).inv = c
      have hcy : c * evl q (l1.getD i 0) = l2[i] := by rw [gx, ← hc, El.mul_assoc, El.mul_comm (evl q l1[i]).inv, El.mul_inv _ q0, El.mul_one]
      have C8 := C7.trans ((bel_drew w7).mono C7.size)
      simp (maxSteps := 1000000) (disch := omega) only [ES, List.mem_cons, List.not_mem_nil, implies_true, forall_const, WS, ↓reduceIte, Nat.reduceEqDiff, reduceCtorEq, AS, t0, t1, t2, t8, t11, t12, t13]
      refine loop_of (fun t w' => t 0 = .bool false ∧ t 1 = s1 ∧ t 2 = s2 ∧ t 8 = .int .i64 (l1.length : Int) ∧ t 11 = sa ∧ t 12 = su ∧ t 13 = .int .i64 (i : Int) ∧ t 14 = sq ∧ t 16 = .int .u16 ((em8 c).v.toNat : Int) ∧ RowKit.Below w3.heap.size w3 w' ∧ Sl w' sq (q.map em8) ∧ ∃ (j : Nat) (ms : List (El 8)), t 17 = .int .i64 (j : Int) ∧ j ≤ l1.length ∧ Ow w3.heap.size w' su (ms.map em8) ∧ ms.length = l1.length ∧ ∀ u, (co ms).c u = (co ls).c u + (if u < j then c * (co q).c u else 0))
        (fun t _ => l1.length - (toI (t 17)).toNat) ⟨by simp only [WS, ↓reduceIte, Nat.reduceEqDiff, reduceCtorEq]; exact t0, by simp only [WS, ↓reduceIte, Nat.reduceEqDiff, reduceCtorEq]; exact t1, by simp only [WS, ↓reduceIte, Nat.reduceEqDiff, reduceCtorEq]; exact t2, by simp only [WS, ↓reduceIte, Nat.reduceEqDiff, reduceCtorEq]; exact t8, by simp only [WS, ↓reduceIte, Nat.reduceEqDiff, reduceCtorEq]; exact t11, by simp only [WS, ↓reduceIte, Nat.reduceEqDiff, reduceCtorEq]; exact t12, by simp only [WS, ↓reduceIte, Nat.reduceEqDiff, reduceCtorEq]; exact t13, by simp only [WS, ↓reduceIte, Nat.reduceEqDiff, reduceCtorEq], by simp only [WS, ↓reduceIte, Nat.reduceEqDiff, reduceCtorEq], C8, pq, 0, ls, rfl, by omega, ou7.drew, lls, fun u => by rw [if_neg (by omega), El.add_zero]⟩ ?_
      clear t0 t1 t2 t8 t11 t12 t13 C8 C7 pq oq ou7 p1 p2 see2
      rintro t w11 ⟨t0, t1, t2, t8, t11, t12, t13, t14, t16, C, oq, j, ms, t17, hj, ou, lms, hms⟩
      by_cases hjl : j < l1.length
      · have jm : j < ms.length := by omega
        have jmm : j < (ms.map em8).length := by rw [List.length_map]; exact jm
        have jq : j < q.length := by omega
        have jqm : j < (q.map em8).length := by rw [List.length_map]; exact jq
        have e3 : (ms.map em8)[j] = em8 ms[j] := List.getElem_map ..
        have e4 : (q.map em8)[j] = em8 q[j] := List.getElem_map ..
        simp (maxSteps := 1000000) (disch := omega) only [WS, ↓reduceIte, Nat.reduceEqDiff, reduceCtorEq, AS, t0, t1, t2, t8, t11, t12, t13, t14, t16, t17]
        refine WP_dops ?_
        have pu := ou.sl.drew
        have pq := oq.drew
        have see3 : Fw.sees Try.prog (.ld (.c (elP su j))) w11.drew (.int .u16 ((em8 ms[j]).v.toNat : Int)) = True := by rw [← e3]; exact pu.sees jmm Try.prog
        simp (maxSteps := 1000000) (disch := omega) only [ES, List.mem_cons, List.not_mem_nil, implies_true, forall_const, WS, ↓reduceIte, Nat.reduceEqDiff, reduceCtorEq, AS, t0, t1, t2, t8, t11, t12, t13, t14, t16, t17, pu.Eix jmm, pu.Eld jmm, pq.Eix jqm, pq.Eld jqm, e3, e4, cell_e16]
        refine E_call0 ((culletref04_timesx_b_spec w11.drew c q[j]).mono ?_)
        rintro _ w12 ⟨rfl, rfl⟩
        simp (maxSteps := 1000000) (disch := omega) only [ES, List.mem_cons, List.not_mem_nil, implies_true, forall_const, WS, ↓reduceIte, Nat.reduceEqDiff, reduceCtorEq, AS, t0, t1, t2, t8, t11, t12, t13, t14, t16, t17, see3, pu.Eix jmm, xor16, em8_add]
        refine Ow.Est ou.drew jmm (em8 (ms[j] + c * q[j])) fun w13 ou13 hg13 => ?_
        have hg13 := grown_of_drew hg13
        rw [← List.map_set] at ou13
        simp (maxSteps := 1000000) (disch := omega) only [ES, List.mem_cons, List.not_mem_nil, implies_true, forall_const, WS, ↓reduceIte, Nat.reduceEqDiff, reduceCtorEq, AS, t0, t1, t2, t8, t11, t12, t13, t14, t16, t17]
        refine ⟨⟨C.grown hg13 C.size (fun b hb => (ou.blk b hb).1), oq.grown hg13 (Or.inl hne), j + 1, _, rfl, by omega, ou13, by rw [List.length_set]; exact lms, fun u => ?_⟩, by omega⟩
        rw [co_set _ jm, hms u]
        by_cases hu : u = j
        · subst hu
          have := hms u
          rw [if_neg (by omega), El.add_zero, co_get ms jm] at this
          rw [if_pos rfl, if_pos (by omega), this, co_get q jq]
        · rw [if_neg hu]
          have : (u < j + 1) = (u < j) := propext ⟨fun h => by omega, fun h => by omega⟩
          simp only [this]
      · simp (maxSteps := 1000000) (disch := omega) only [WS, ↓reduceIte, Nat.reduceEqDiff, reduceCtorEq, AS, t0, t1, t2, t8, t11, t12, t13, t14, t16, t17]
        refine ⟨⟨C, i + 1, ms, rfl, by omega, ou, lms, lag_step hlt lq qo hcy lls lms (fun u hu => by rw [hms u, if_pos (by omega)]) (Y := fun j => l2.getD j 0) gy hv⟩, by omega⟩
  · obtain rfl : i = l1.length := by omega
    have lmm : (ls.map em8).length ≤ 70368744175616 := by rw [List.length_map]; omega
    simp (maxSteps := 1000000) (disch := omega) only [WS, ↓reduceIte, Nat.reduceEqDiff, reduceCtorEq, AS, t0, t1, t2, t8, t11, t12, t13]
    refine X_call0 ((culletref04_Trim_spec w5 su (ls.map em8) ou.sl lmm).mono ?_)
    rintro v w6 ⟨o6, hB⟩
    rw [tr_em8] at o6
    have hlt2 := tln_le ls
    simp (maxSteps := 1000000) (disch := omega) only [WS, ↓reduceIte, Nat.reduceEqDiff, reduceCtorEq, AS]
    refine ⟨(B.trans (C.mono B.size)).trans (hB.mono (Nat.le_trans B.size C.size)), Or.inl ⟨z1, by omega, hnd, v, tr ls, rfl, o6.mono (Nat.le_trans B.size C.size), tr_tr ls, by rw [tr_len]; omega, fun j hj => ?_⟩⟩
    rw [evl_eq _ (tr_co ls), hv j hj, if_pos hj]
end Go.Proofs.Ytbaljbadlfopgaa.Fw

set_option linter.unusedVariables false
set_option linter.unusedSimpArgs false
set_option maxRecDepth 100000
set_option maxHeartbeats 1000000
namespace Go.Proofs.Ytbaljbadlfopgaa.Fw
open Go Go.Fw Go.Proofs
attribute [local irreducible] stepI
def c_mend_refuses : C := .seq (.ops [⟨0,some 6,none,.mov (.c (.slice none 0 0)),[]⟩,⟨1,some 7,none,.mov (.c (.int .i64 0)),[]⟩]) (.seq (.seq (.ops [⟨0,some 12,none,.mov (.t 0),[]⟩,⟨1,some 13,none,.bin .lss (.t 12) (.c (.int .i64 1)),[]⟩,⟨2,some 14,none,.mov (.t 13),[]⟩,⟨3,some 15,(some (14,false)),.mov (.t 0),[]⟩,⟨4,some 16,(some (14,false)),.bin .gtr (.t 15) (.c (.int .i64 256)),[]⟩,⟨5,some 17,none,.pick (.t 14) (.c (.bool true)) (.t 16),[]⟩,⟨6,some 18,none,.mov (.t 17),[]⟩,⟨7,some 19,(some (18,false)),.mov (.t 1),[]⟩,⟨8,some 20,(some (18,false)),.len (.t 19),[]⟩,⟨9,some 21,(some (18,false)),.bin .gtr (.t 20) (.c (.int .i64 256)),[]⟩,⟨10,some 22,none,.pick (.t 18) (.c (.bool true)) (.t 21),[]⟩]) (.ite (.t 22) (.seq (.ops [⟨0,some 6,none,.mov (.c (.slice none 0 0)),[]⟩,⟨1,some 7,none,.mov (.c (.int .i64 4)),[]⟩]) .ret) .skip)) (.seq (.ops [⟨0,some 8,none,.mov (.c (.int .i64 (-1))),[]⟩]) (.seq (.ops [⟨0,some 23,none,.mov (.t 1),[]⟩,⟨1,some 24,none,.len (.t 23),[]⟩,⟨2,some 25,none,.mks 5 1 [.int .u8 0] (.t 24) (.t 24),[]⟩,⟨3,some 9,none,.mov (.t 25),[]⟩]) (.seq (.seq (.ops [⟨0,some 26,none,.mov (.t 1),[]⟩,⟨1,some 27,none,.len (.t 26),[]⟩,⟨2,some 28,none,.mov (.c (.int .i64 0)),[]⟩]) (.block 0 (.loop (.seq (.ops [⟨0,some 29,none,.bin .lss (.t 28) (.t 27),[]⟩]) (.seq (.ite (.t 29) .skip (.exit 0)) (.seq (.block 1 (.seq (.ops [⟨0,some 30,none,.mov (.t 28),[]⟩,⟨1,some 31,none,.ixs 1 (.t 26) (.t 28),[]⟩,⟨2,some 32,none,.ld (.t 31),[]⟩,⟨3,some 10,none,.mov (.t 30),[]⟩,⟨4,some 11,none,.mov (.t 32),[]⟩]) (.seq (.seq (.ops [⟨0,some 33,none,.mov (.t 11),[]⟩,⟨1,some 34,none,.mov (.t 8),[]⟩,⟨2,some 35,none,.bin .leq (.t 33) (.t 34),[]⟩,⟨3,some 36,none,.mov (.t 35),[]⟩,⟨4,some 37,(some (36,false)),.mov (.t 11),[]⟩,⟨5,some 38,(some (36,false)),.bin .gtr (.t 37) (.c (.int .i64 255)),[]⟩,⟨6,some 39,none,.pick (.t 36) (.c (.bool true)) (.t 38),[]⟩]) (.ite (.t 39) (.seq (.ops [⟨0,some 6,none,.mov (.c (.slice none 0 0)),[]⟩,⟨1,some 7,none,.mov (.c (.int .i64 110)),[]⟩]) .ret) .skip)) (.seq (.ops [⟨0,some 40,none,.mov (.t 11),[]⟩,⟨1,some 8,none,.mov (.t 40),[]⟩]) (.ops [⟨0,some 41,none,.mov (.t 9),[]⟩,⟨1,some 42,none,.mov (.t 10),[]⟩,⟨2,some 43,none,.mov (.t 11),[]⟩,⟨3,some 44,none,.cnv .u8 (.t 43),[]⟩,⟨4,some 45,none,.ixs 1 (.t 41) (.t 42),[]⟩,⟨5,none,none,.st (.t 45) (.t 44),[]⟩]))))) (.ops [⟨0,some 46,none,.bin .add (.t 28) (.c (.int .i64 1)),[]⟩,⟨1,some 28,none,.mov (.t 46),[]⟩]))))))) (.seq (.seq (.ops [⟨0,some 47,none,.mov (.t 2),[]⟩,⟨1,some 48,none,.len (.t 47),[]⟩,⟨2,some 49,none,.mov (.t 1),[]⟩,⟨3,some 50,none,.len (.t 49),[]⟩,⟨4,some 51,none,.bin .neq (.t 48) (.t 50),[]⟩]) (.ite (.t 51) (.seq (.ops [⟨0,some 6,none,.mov (.c (.slice none 0 0)),[]⟩,⟨1,some 7,none,.mov (.c (.int .i64 6)),[]⟩]) .ret) .skip)) (.seq (.seq (.ops [⟨0,some 52,none,.mov (.t 1),[]⟩,⟨1,some 53,none,.len (.t 52),[]⟩,⟨2,some 54,none,.mov (.t 0),[]⟩,⟨3,some 55,none,.bin .lss (.t 53) (.t 54),[]⟩]) (.ite (.t 55) (.seq (.ops [⟨0,some 6,none,.mov (.c (.slice none 0 0)),[]⟩,⟨1,some 7,none,.mov (.c (.int .i64 9)),[]⟩]) .ret) .skip)) (.seq (.ops [⟨0,some 56,none,.mov (.t 9),[]⟩,⟨1,some 6,none,.mov (.t 56),[]⟩,⟨2,some 7,none,.mov (.c (.int .i64 0)),[]⟩]) .ret)))))))
attribute [irreducible] c_mend_refuses
theorem run_mend_refuses {args : List Value} {w : World} {K : Value → World → Prop} (hn : args.length ≤ 57) (h : WP Try.prog c_mend_refuses (endQ [.t 6, .t 7] K) (initT args) w) : CallV Try.prog 54 args w K :=
  call_of follows Try.func54 (by kernel_rfl) (by kernel_rfl) hn h
end Go.Proofs.Ytbaljbadlfopgaa.Fw
namespace Go.Proofs.Ytbaljbadlfopgaa.Fw
open Go Go.Fw
def en8 (n : Nat) : El 8 := ⟨BitVec.ofNat 8 n⟩
theorem en8_v {n : Nat} (h : n < 256) : (en8 n).v.toNat = n := by
  show (BitVec.ofNat 8 n).toNat = n
  rw [BitVec.toNat_ofNat]; exact Nat.mod_eq_of_lt h
theorem en8_c {n : Nat} (h : n < 256) : Value.int .u8 (n : Int) = Cell.v (en8 n) := by rw [cell_e8, en8_v h]
/-- The first n points ascend, from 0 to 255. -/
def asc (P : List Int) (n : Nat) : Prop := ∀ i (hi : i < P.length), i < n → 0 ≤ P[i] ∧ P[i] ≤ 255 ∧ ∀ j (hj : j < P.length), j < i → P[j] < P[i]
theorem mend_refuses_spec (w : World) (k : Int) (s1 s2 : Value) (P : List Int) (Y : List (El 8)) (h1 : Sl w s1 P) (h2 : Sl w s2 Y) (hP : P.length ≤ 70368744175616) (hY : Y.length ≤ 140737488355328) :
    CallV Try.prog 54 [.int .i64 k, s1, s2] w fun v w' => RowKit.Below w.heap.size w w' ∧
      (((k < 1 ∨ k > 256 ∨ P.length > 256) ∧ v = .tuple #[.slice none 0 0, .int .i64 4]) ∨
       (¬ (k < 1 ∨ k > 256 ∨ P.length > 256) ∧ ¬ asc P P.length ∧ v = .tuple #[.slice none 0 0, .int .i64 110]) ∨
       (¬ (k < 1 ∨ k > 256 ∨ P.length > 256) ∧ asc P P.length ∧ Y.length ≠ P.length ∧ v = .tuple #[.slice none 0 0, .int .i64 6]) ∨
       (¬ (k < 1 ∨ k > 256 ∨ P.length > 256) ∧ asc P P.length ∧ Y.length = P.length ∧ (P.length : Int) < k ∧ v = .tuple #[.slice none 0 0, .int .i64 9]) ∨
       (¬ (k < 1 ∨ k > 256 ∨ P.length > 256) ∧ asc P P.length ∧ Y.length = P.length ∧ ¬ (P.length : Int) < k ∧ ∃ (s : Value) (xs : List (El 8)), v = .tuple #[s, .int .i64 0] ∧ Ow w.heap.size w' s xs ∧ xs.length = P.length ∧ ∀ i (hi : i < xs.length) (hi' : i < P.length), ((xs[i].v.toNat : Nat) : Int) = P[i])) := by
  refine run_mend_refuses (by simp) ?_
  simp only [c_mend_refuses, WS, ↓reduceIte, Nat.reduceEqDiff, reduceCtorEq]
  by_cases g1 : k < 1
  · simp (maxSteps := 1000000) (disch := omega) only [WS, ↓reduceIte, Nat.reduceEqDiff, reduceCtorEq, AS]
    exact ⟨RowKit.Below.refl _ _, Or.inl (Or.inl g1)⟩
  by_cases g2 : k > 256
  · simp (maxSteps := 1000000) (disch := omega) only [WS, ↓reduceIte, Nat.reduceEqDiff, reduceCtorEq, AS]
    exact ⟨RowKit.Below.refl _ _, Or.inl (Or.inr (Or.inl g2))⟩
  by_cases g3 : P.length > 256
  · simp (maxSteps := 1000000) (disch := omega) only [WS, ↓reduceIte, Nat.reduceEqDiff, reduceCtorEq, AS, h1.Xlen]
    exact ⟨RowKit.Below.refl _ _, Or.inl (Or.inr (Or.inr g3))⟩
  have hno : ¬ (k < 1 ∨ k > 256 ∨ P.length > 256) := by omega
  simp (maxSteps := 1000000) (disch := omega) only [WS, ↓reduceIte, Nat.reduceEqDiff, reduceCtorEq, AS, h1.Xlen]
  refine X_mks (x := (0 : El 8)) (by simp only [maxBytes]; omega) (by omega) fun s9 w1 o9 hB => ?_
  simp (maxSteps := 1000000) (disch := omega) only [WS, ↓reduceIte, Nat.reduceEqDiff, reduceCtorEq, AS, (h1.up hB).Xlen]
  refine loop_of (fun t w' => t 0 = .int .i64 k ∧ t 1 = s1 ∧ t 2 = s2 ∧ t 9 = s9 ∧ t 26 = s1 ∧ t 27 = .int .i64 (P.length : Int) ∧ RowKit.Below w.heap.size w w' ∧ ∃ (i : Nat) (last : Int) (L : List (El 8)), t 28 = .int .i64 (i : Int) ∧ i ≤ P.length ∧ t 8 = .int .i64 last ∧ -1 ≤ last ∧ (∀ j (hj : j < P.length), j < i → P[j] ≤ last) ∧ (∀ h : 0 < i, ∀ h' : i - 1 < P.length, last = P[i - 1]) ∧ (i = 0 → last = -1) ∧ asc P i ∧ Ow w.heap.size w' s9 L ∧ L.length = P.length ∧ ∀ j (hj : j < L.length) (hj' : j < P.length), j < i → ((L[j].v.toNat : Nat) : Int) = P[j]) (fun t _ => P.length - (toI (t 28)).toNat)
    ⟨by simp only [WS, ↓reduceIte, Nat.reduceEqDiff, reduceCtorEq], by simp only [WS, ↓reduceIte, Nat.reduceEqDiff, reduceCtorEq], by simp only [WS, ↓reduceIte, Nat.reduceEqDiff, reduceCtorEq], by simp only [WS, ↓reduceIte, Nat.reduceEqDiff, reduceCtorEq], by simp only [WS, ↓reduceIte, Nat.reduceEqDiff, reduceCtorEq], by simp only [WS, ↓reduceIte, Nat.reduceEqDiff, reduceCtorEq], hB, 0, -1, _, by simp only [WS, ↓reduceIte, Nat.reduceEqDiff, reduceCtorEq]; rfl, by omega, by simp only [WS, ↓reduceIte, Nat.reduceEqDiff, reduceCtorEq], by omega, fun j hj h => by omega, fun h => by omega, fun _ => rfl, fun i hi h => by omega, o9, List.length_replicate .., fun j hj hj' h => by omega⟩ ?_
  clear hB o9
  rintro t w2 ⟨t0, t1, t2, t9, t26, t27, B, i, last, L, t28, hi, t8, hl1, hl2, hl3, hl4, hasc, oL, hLl, hLv⟩
  by_cases hil : i < P.length
  · have hs := h1.up B
    by_cases c1 : P[i] ≤ last
    · simp (maxSteps := 1000000) (disch := omega) only [WS, ↓reduceIte, Nat.reduceEqDiff, reduceCtorEq, AS, t0, t1, t2, t9, t26, t27, t28, t8, hs.Xix hil, hs.Xld hil, cell_int]
      refine ⟨B, Or.inr (Or.inl ⟨hno, fun h => ?_⟩)⟩
      obtain ⟨a1, -, a3⟩ := h i hil hil
      by_cases h0 : i = 0
      · have := hl4 h0; omega
      · have := hl3 (by omega) (by omega)
        have := a3 (i - 1) (by omega) (by omega)
        omega
    by_cases c2 : P[i] > 255
    · simp (maxSteps := 1000000) (disch := omega) only [WS, ↓reduceIte, Nat.reduceEqDiff, reduceCtorEq, AS, t0, t1, t2, t9, t26, t27, t28, t8, hs.Xix hil, hs.Xld hil, cell_int]
      refine ⟨B, Or.inr (Or.inl ⟨hno, fun h => ?_⟩)⟩
      have := (h i hil hil).2.1
      omega
    obtain ⟨n, hn⟩ : ∃ n : Nat, P[i] = (n : Int) := ⟨P[i].toNat, by omega⟩
    have iL : i < L.length := by omega
    have u1 : IntKind.u8.wrap ((n : Nat) : Int) = (n : Int) := wrap_u8 _ (by omega)
    rw [hn] at c1 c2
    simp (maxSteps := 1000000) (disch := omega) only [WS, ↓reduceIte, Nat.reduceEqDiff, reduceCtorEq, AS, t0, t1, t2, t9, t26, t27, t28, t8, hs.Xix hil, hs.Xld hil, cell_int, hn, u1, oL.sl.Xix iL]
    rw [en8_c (show n < 256 by omega)]
    refine Ow.Xst oL iL (en8 n) fun w3 oL2 hg => ?_
    have B := B.grown hg B.size fun b hb => (oL.blk b hb).1
    simp (maxSteps := 1000000) (disch := omega) only [WS, ↓reduceIte, Nat.reduceEqDiff, reduceCtorEq, AS, t0, t1, t2, t9, t26, t27, t28]
    refine ⟨⟨B, i + 1, (n : Int), _, rfl, by omega, rfl, by omega, fun j hj h => ?_, fun _ h' => by simp only [Nat.add_sub_cancel]; exact hn.symm, fun h => by omega, fun x hx h => ?_, oL2, by rw [List.length_set]; exact hLl, fun j hj hj' h => ?_⟩, by omega⟩
    · by_cases e : j = i
      · subst e; rw [hn]; omega
      · have := hl2 j hj (by omega); omega
    · by_cases e : x = i
      · subst e
        refine ⟨by rw [hn]; omega, by rw [hn]; omega, fun j hj h2 => ?_⟩
        have := hl2 j hj h2
        rw [hn]; omega
      · exact hasc x hx (by omega)
    · rw [List.length_set] at hj
      rw [List.getElem_set]
      by_cases e : i = j
      · subst e; rw [if_pos rfl, en8_v (by omega), hn]
      · rw [if_neg e]; exact hLv j hj hj' (by omega)
  have hie : i = P.length := by omega
  rw [hie] at hasc hLv
  have hs1 := h1.up B
  have hs2 := h2.up B
  by_cases c1 : Y.length = P.length
  rotate_left
  · have c1' : (Y.length : Int) ≠ (P.length : Int) := fun e => c1 (by omega)
    simp (maxSteps := 1000000) (disch := omega) only [WS, ↓reduceIte, Nat.reduceEqDiff, reduceCtorEq, AS, t0, t1, t2, t9, t26, t27, t28, hs1.Xlen, hs2.Xlen]
    exact ⟨B, Or.inr (Or.inr (Or.inl ⟨hno, hasc, c1⟩))⟩
  by_cases c2 : (P.length : Int) < k
  · simp (maxSteps := 1000000) (disch := omega) only [WS, ↓reduceIte, Nat.reduceEqDiff, reduceCtorEq, AS, t0, t1, t2, t9, t26, t27, t28, hs1.Xlen, hs2.Xlen, c1, ne_eq, not_true_eq_false, decide_false]
    exact ⟨B, Or.inr (Or.inr (Or.inr (Or.inl ⟨hno, hasc, c2⟩)))⟩
  simp (maxSteps := 1000000) (disch := omega) only [WS, ↓reduceIte, Nat.reduceEqDiff, reduceCtorEq, AS, t0, t1, t2, t9, t26, t27, t28, hs1.Xlen, hs2.Xlen, c1, ne_eq, not_true_eq_false, decide_false]
  exact ⟨B, Or.inr (Or.inr (Or.inr (Or.inr ⟨hno, hasc, c2, s9, L, rfl, oL, hLl, fun i hi hi' => hLv i hi hi' hi'⟩)))⟩
end Go.Proofs.Ytbaljbadlfopgaa.Fw
