import Derived.Test.YtpmfeaajpjjfiaaProg
import Derived.Test.YtpmfeaajpjjfiaaFwTG
import Derived.Test.YtpmfeaajpjjfiaaSS14tG
import Derived.Test.YtpmfeaajpjjfiaaSS14oG
set_option linter.all false
set_option linter.unusedVariables false
set_option linter.unusedSimpArgs false
set_option maxRecDepth 100000
set_option maxHeartbeats 1000000
namespace Go.Proofs.Ytpmfeaajpjjfiaa.Fw
open Go Go.Fw Go.Proofs
attribute [local irreducible] stepI
def c_culletlaw14_AfftParities : C := .seq (.ops [⟨0, (some 4), none, .mov (.c (.bool false)), []⟩]) (.seq (.seq (.ops [⟨0, (some 16), none, .call (.c (.func (.func 14) #[] #[])) [], []⟩, ⟨1, (some 17), none, .un .not (.t 16), []⟩]) (.ite (.t 17) (.seq (.ops [⟨0, (some 4), none, .mov (.c (.bool false)), []⟩]) .ret) .skip)) (.seq (.seq (.ops [⟨0, (some 18), none, .mov (.t 0), []⟩, ⟨1, (some 19), none, .len (.t 18), []⟩, ⟨2, (some 20), none, .bin .lss (.t 19) (.c (.int .i64 1)), []⟩, ⟨3, (some 21), none, .mov (.t 20), []⟩, ⟨4, (some 22), (some (21, false)), .mov (.t 0), []⟩, ⟨5, (some 23), (some (21, false)), .len (.t 22), []⟩, ⟨6, (some 24), (some (21, false)), .bin .gtr (.t 23) (.c (.int .i64 80)), []⟩, ⟨7, (some 25), none, .pick (.t 21) (.c (.bool true)) (.t 24), []⟩]) (.ite (.t 25) (.seq (.ops [⟨0, (some 4), none, .mov (.c (.bool true)), []⟩]) .ret) .skip)) (.seq (.ops [⟨0, (some 26), none, .mov (.t 0), []⟩, ⟨1, (some 27), none, .len (.t 26), []⟩, ⟨2, (some 5), none, .mov (.t 27), []⟩]) (.seq (.ops [⟨0, (some 28), none, .mov (.t 1), []⟩, ⟨1, (some 29), none, .bin .rem (.t 28) (.c (.int .i64 10)), []⟩, ⟨2, (some 30), none, .bin .add (.t 29) (.c (.int .i64 10)), []⟩, ⟨3, (some 31), none, .bin .rem (.t 30) (.c (.int .i64 10)), []⟩, ⟨4, (some 32), none, .bin .add (.t 31) (.c (.int .i64 1)), []⟩, ⟨5, (some 1), none, .mov (.t 32), []⟩]) (.seq (.ops [⟨0, (some 6), none, .mov (.c (.int .i64 1)), []⟩]) (.seq (.block 0 (.loop (.seq (.seq (.ops [⟨0, (some 33), none, .mov (.t 6), []⟩, ⟨1, (some 34), none, .mov (.t 1), []⟩, ⟨2, (some 35), none, .bin .lss (.t 33) (.t 34), []⟩]) (.ite (.t 35) .skip (.exit 0))) (.block 1 (.ops [⟨0, (some 36), none, .mov (.t 6), []⟩, ⟨1, (some 37), none, .bin .mul (.c (.int .i64 2)) (.t 36), []⟩, ⟨2, (some 6), none, .mov (.t 37), []⟩]))))) (.seq (.ops [⟨0, (some 38), none, .bsl 31 0 [.int .u16 0] [], []⟩, ⟨1, (some 39), none, .mov (.t 0), []⟩, ⟨2, (some 40), none, .app 31 2 [.int .u16 0] (.t 38) (.t 39), []⟩, ⟨3, (some 7), none, .mov (.t 40), []⟩]) (.seq (.block 2 (.loop (.seq (.seq (.ops [⟨0, (some 41), none, .mov (.t 7), []⟩, ⟨1, (some 42), none, .len (.t 41), []⟩, ⟨2, (some 43), none, .mov (.t 6), []⟩, ⟨3, (some 44), none, .bin .rem (.t 42) (.t 43), []⟩, ⟨4, (some 45), none, .bin .neq (.t 44) (.c (.int .i64 0)), []⟩]) (.ite (.t 45) .skip (.exit 2))) (.block 3 (.ops [⟨0, (some 46), none, .mov (.t 7), []⟩, ⟨1, (some 47), none, .bsl 31 1 [.int .u16 0] [(0, (1, .c (.int .u16 0)))], []⟩, ⟨2, (some 48), none, .app 31 2 [.int .u16 0] (.t 46) (.t 47), []⟩, ⟨3, (some 7), none, .mov (.t 48), []⟩]))))) (.seq (.ops [⟨0, (some 50), none, .mov (.t 7), []⟩, ⟨1, (some 51), none, .mov (.t 6), []⟩, ⟨2, (some 52), none, .mov (.t 6), []⟩, ⟨3, (some 53), none, .call (.c (.func (.func 22) #[] #[])) [.t 50, .t 51, .t 52], []⟩, ⟨4, (some 49), none, .mov (.t 53), []⟩, ⟨5, (some 54), none, .ext (.t 49) 0, []⟩, ⟨6, (some 55), none, .ext (.t 49) 1, []⟩, ⟨7, (some 8), none, .mov (.t 54), []⟩, ⟨8, (some 9), none, .mov (.t 55), []⟩]) (.seq (.seq (.ops [⟨0, (some 56), none, .mov (.t 9), []⟩, ⟨1, (some 57), none, .bin .neq (.t 56) (.c (.int .i64 0)), []⟩, ⟨2, (some 58), none, .mov (.t 57), []⟩, ⟨3, (some 59), (some (58, false)), .mov (.t 8), []⟩, ⟨4, (some 60), (some (58, false)), .len (.t 59), []⟩, ⟨5, (some 61), (some (58, false)), .mov (.t 6), []⟩, ⟨6, (some 62), (some (58, false)), .bin .neq (.t 60) (.t 61), []⟩, ⟨7, (some 63), none, .pick (.t 58) (.c (.bool true)) (.t 62), []⟩]) (.ite (.t 63) (.seq (.ops [⟨0, (some 4), none, .mov (.c (.bool false)), []⟩]) .ret) .skip)) (.seq (.ops [⟨0, (some 65), none, .mov (.t 8), []⟩, ⟨1, (some 66), none, .call (.c (.func (.func 18) #[] #[])) [.t 65, .c (.int .i64 0)], []⟩, ⟨2, (some 64), none, .mov (.t 66), []⟩, ⟨3, (some 67), none, .ext (.t 64) 0, []⟩, ⟨4, (some 68), none, .ext (.t 64) 1, []⟩, ⟨5, (some 10), none, .mov (.t 67), []⟩, ⟨6, (some 9), none, .mov (.t 68), []⟩]) (.seq (.seq (.ops [⟨0, (some 69), none, .mov (.t 9), []⟩, ⟨1, (some 70), none, .bin .neq (.t 69) (.c (.int .i64 0)), []⟩, ⟨2, (some 71), none, .mov (.t 70), []⟩, ⟨3, (some 72), (some (71, false)), .mov (.t 10), []⟩, ⟨4, (some 73), (some (71, false)), .len (.t 72), []⟩, ⟨5, (some 74), (some (71, false)), .mov (.t 6), []⟩, ⟨6, (some 75), (some (71, false)), .bin .neq (.t 73) (.t 74), []⟩, ⟨7, (some 76), none, .pick (.t 71) (.c (.bool true)) (.t 75), []⟩]) (.ite (.t 76) (.seq (.ops [⟨0, (some 4), none, .mov (.c (.bool false)), []⟩]) .ret) .skip)) (.seq (.seq (.ops [⟨0, (some 11), none, .mov (.c (.int .i64 0)), []⟩]) (.block 4 (.loop (.seq (.seq (.ops [⟨0, (some 77), none, .mov (.t 11), []⟩, ⟨1, (some 78), none, .mov (.t 1), []⟩, ⟨2, (some 79), none, .bin .lss (.t 77) (.t 78), []⟩]) (.ite (.t 79) .skip (.exit 4))) (.seq (.block 5 (.seq (.ops [⟨0, (some 83), none, .mov (.t 5), []⟩, ⟨1, (some 84), none, .mov (.t 1), []⟩, ⟨2, (some 85), none, .mov (.t 11), []⟩, ⟨3, (some 86), none, .call (.c (.func (.func 29) #[] #[])) [.t 83, .t 84, .t 85], []⟩, ⟨4, (some 82), none, .mov (.t 86), []⟩, ⟨5, (some 87), none, .ext (.t 82) 0, []⟩, ⟨6, (some 88), none, .ext (.t 82) 1, []⟩, ⟨7, (some 12), none, .mov (.t 87), []⟩, ⟨8, (some 13), none, .mov (.t 88), []⟩]) (.seq (.seq (.ops [⟨0, (some 89), none, .mov (.t 13), []⟩, ⟨1, (some 90), none, .bin .neq (.t 89) (.c (.int .i64 0)), []⟩, ⟨2, (some 91), none, .mov (.t 90), []⟩, ⟨3, (some 92), (some (91, false)), .mov (.t 12), []⟩, ⟨4, (some 93), (some (91, false)), .len (.t 92), []⟩, ⟨5, (some 94), (some (91, false)), .mov (.t 5), []⟩, ⟨6, (some 95), (some (91, false)), .bin .neq (.t 93) (.t 94), []⟩, ⟨7, (some 96), none, .pick (.t 91) (.c (.bool true)) (.t 95), []⟩]) (.ite (.t 96) (.seq (.ops [⟨0, (some 4), none, .mov (.c (.bool false)), []⟩]) .ret) .skip)) (.seq (.ops [⟨0, (some 14), none, .mov (.c (.int .u16 0)), []⟩]) (.seq (.seq (.ops [⟨0, (some 15), none, .mov (.c (.int .i64 0)), []⟩]) (.block 6 (.loop (.seq (.seq (.ops [⟨0, (some 97), none, .mov (.t 15), []⟩, ⟨1, (some 98), none, .mov (.t 5), []⟩, ⟨2, (some 99), none, .bin .lss (.t 97) (.t 98), []⟩]) (.ite (.t 99) .skip (.exit 6))) (.seq (.block 7 (.dops [⟨0, (some 102), none, .mov (.t 14), []⟩, ⟨1, (some 103), none, .mov (.t 12), []⟩, ⟨2, (some 104), none, .mov (.t 15), []⟩, ⟨3, (some 105), none, .ixs 1 (.t 103) (.t 104), []⟩, ⟨4, (some 106), none, .ld (.t 105), []⟩, ⟨5, (some 107), none, .mov (.t 0), []⟩, ⟨6, (some 108), none, .mov (.t 15), []⟩, ⟨7, (some 109), none, .ixs 1 (.t 107) (.t 108), []⟩, ⟨8, (some 110), none, .ld (.t 109), []⟩, ⟨9, (some 111), none, .call (.c (.func (.func 20) #[] #[])) [.t 106, .t 110], []⟩, ⟨10, (some 112), none, .bin .xor (.t 102) (.t 111), []⟩, ⟨11, (some 14), none, .mov (.t 112), []⟩])) (.ops [⟨0, (some 100), none, .mov (.t 15), []⟩, ⟨1, (some 101), none, .bin .add (.t 100) (.c (.int .i64 1)), []⟩, ⟨2, (some 15), none, .mov (.t 101), []⟩])))))) (.seq (.ops [⟨0, (some 113), none, .mov (.t 14), []⟩, ⟨1, (some 114), none, .mov (.t 10), []⟩, ⟨2, (some 115), none, .mov (.t 11), []⟩, ⟨3, (some 116), none, .ixs 1 (.t 114) (.t 115), []⟩, ⟨4, (some 117), none, .ld (.t 116), []⟩, ⟨5, (some 118), none, .bin .neq (.t 113) (.t 117), []⟩]) (.ite (.t 118) (.seq (.ops [⟨0, (some 4), none, .mov (.c (.bool false)), []⟩]) .ret) .skip))))))) (.ops [⟨0, (some 80), none, .mov (.t 11), []⟩, ⟨1, (some 81), none, .bin .add (.t 80) (.c (.int .i64 1)), []⟩, ⟨2, (some 11), none, .mov (.t 81), []⟩])))))) (.seq (.ops [⟨0, (some 4), none, .mov (.c (.bool true)), []⟩]) .ret))))))))))))))
attribute [irreducible] c_culletlaw14_AfftParities
theorem run_culletlaw14_AfftParities {args : List Value} {w : World} {K : Value → World → Prop} (hn : args.length ≤ 119) (h : WP Try.prog c_culletlaw14_AfftParities (endQ [.t 4] K) (initT args) w) : CallV Try.prog 12 args w K :=
  call_of follows Try.func12 (by kernel_rfl) (by kernel_rfl) hn h
end Go.Proofs.Ytpmfeaajpjjfiaa.Fw
namespace Go.Proofs.Ytpmfeaajpjjfiaa.Fw
open Go Go.Fw
theorem parity_sum {u q j k : Nat} {pad data : List (El 16)} {d v : Nat → El 16} (hu : u ≤ 4) (hq : q * 2 ^ u ≤ 100) (hj : j < 2 ^ u) (hk : k ≤ q * 2 ^ u) (hpad : ∀ i, (co pad).c i = (co data).c i) (hdk : data.length = k)
    (hd : ∀ i, i < 2 ^ u → d i = esum q (fun p => itI (2 ^ u + p * 2 ^ u) u (fun y => (co pad).c (p * 2 ^ u + y)) i)) (hv : v j = itF 0 u d j) :
    v j = esum k (fun i => fac u j i * (co data).c i) := by
  have h0 := Nat.two_pow_pos u
  have hp16 : 2 ^ u ≤ 2 ^ 4 := Nat.pow_le_pow_right (by omega) hu
  have e1 : v j = evX u (2 ^ u) d (wel j) := by rw [hv, itF_ev 0 u d j (Nat.zero_mod _) (by omega) hj, Nat.zero_add]
  have e2 : evX u (2 ^ u) d (wel j) = esum q (fun p => evX u (2 ^ u) (itI (2 ^ u + p * 2 ^ u) u (fun y => (co pad).c (p * 2 ^ u + y))) (wel j)) := by
    rw [← evX_esum]
    unfold evX
    exact esum_congr fun i hi => by rw [hd i hi]
  have e3 : esum k (fun i => fac u j i * (co data).c i) = esum (q * 2 ^ u) (fun i => fac u j i * (co data).c i) := by
    obtain ⟨e, he⟩ : ∃ e, q * 2 ^ u = k + e := ⟨q * 2 ^ u - k, by omega⟩
    rw [he, esum_append, esum_zero (n := e) (fun i _ => by rw [co_dg data (k + i) (by omega), El.mul_zero]), El.add_zero]
  rw [e1, e2, e3, esum_flat]
  refine esum_congr fun p hp => ?_
  have hpq : p * 2 ^ u + 2 ^ u ≤ q * 2 ^ u := by rw [show p * 2 ^ u + 2 ^ u = (p + 1) * 2 ^ u by rw [Nat.add_mul, Nat.one_mul]]; exact Nat.mul_le_mul_right _ hp
  have hs0 : sV u (wel j) = 0 := by rw [sV_wel u j (by omega), Nat.shiftRight_eq_div_pow, Nat.div_eq_of_lt hj, wel_zero]
  rw [lagrange (wel j) u (2 ^ u + p * 2 ^ u) _ (by rw [Nat.add_mod_left, Nat.mul_mod_left]) (by omega) (fun i hi => wel_ne (by omega) (by omega) (by omega)), hs0, El.zero_add, sV_wel u _ (by omega), ← esum_mul]
  refine esum_congr fun i hi => ?_
  unfold fac
  rw [hpad]
  have e4 : (2 ^ u + (p * 2 ^ u + i)) >>> u = (2 ^ u + p * 2 ^ u) >>> u := by
    rw [Nat.shiftRight_eq_div_pow, Nat.shiftRight_eq_div_pow, show 2 ^ u + (p * 2 ^ u + i) = i + 2 ^ u * (1 + p) by rw [Nat.mul_add, Nat.mul_comm p, Nat.mul_one]; omega, show 2 ^ u + p * 2 ^ u = 2 ^ u * (1 + p) by rw [Nat.mul_add, Nat.mul_comm p, Nat.mul_one],
      Nat.add_mul_div_left _ _ h0, Nat.div_eq_of_lt hi, Nat.zero_add, Nat.mul_div_cancel_left _ h0]
  rw [e4, show 2 ^ u + (p * 2 ^ u + i) = 2 ^ u + p * 2 ^ u + i by omega]
  ac_rfl
theorem culletlaw14_AfftParities_spec (w : World) (s : Value) (l : List (El 16)) (m : Int) (h : Sl w s l) (hb : l.length ≤ 70368744175616) (hm : -9223372036854775808 ≤ m ∧ m ≤ 9223372036854775807) :
    CallV Try.prog 12 [s, .int .i64 m] w fun v w' => v = .bool true ∧ RowKit.Below w.heap.size w w' := by
  refine run_culletlaw14_AfftParities (by simp) ?_
  simp only [c_culletlaw14_AfftParities, WS, List.getElem_cons_zero, List.getElem_cons_succ, Option.isNone_some, Option.isNone_none, List.getD_cons_zero, List.getD_cons_succ, I.at, atL, atO, atP, evp, evs, retV, ↓reduceIte, Nat.reduceEqDiff, reduceCtorEq]
  refine X_call0 ((culletlaw14_awake_spec w).mono ?_)
  rintro _ w1 ⟨rfl, hB⟩
  have B := hB
  clear hB
  by_cases h1 : l.length < 1
  · simp (maxSteps := 1000000) (disch := omega) only [WS, List.getElem_cons_zero, List.getElem_cons_succ, Option.isNone_some, Option.isNone_none, List.getD_cons_zero, List.getD_cons_succ, I.at, atL, atO, atP, evp, evs, retV, ↓reduceIte, Nat.reduceEqDiff, reduceCtorEq, AS, (h.up B).Xlen]
    exact B
  by_cases h80 : 80 < l.length
  · simp (maxSteps := 1000000) (disch := omega) only [WS, List.getElem_cons_zero, List.getElem_cons_succ, Option.isNone_some, Option.isNone_none, List.getD_cons_zero, List.getD_cons_succ, I.at, atL, atO, atP, evp, evs, retV, ↓reduceIte, Nat.reduceEqDiff, reduceCtorEq, AS, (h.up B).Xlen]
    exact B
  have h10 : ((10 : Int) ≠ 0) = True := eq_true (by decide)
  have hb1 := Int.natAbs_tmod m 10
  have hb2 : m.natAbs % (10 : Int).natAbs < 10 := Nat.mod_lt _ (by decide)
  rw [← hb1] at hb2
  generalize hr : m.tmod 10 = r at *
  have e2 : IntKind.i64.wrap (r + 10) = r + 10 := wrap_id (by omega) (by omega)
  obtain ⟨z, hz⟩ : ∃ z : Nat, r + 10 = (z : Int) := ⟨(r + 10).toNat, by omega⟩
  have e3 : (z : Int).tmod 10 = ((z % 10 : Nat) : Int) := tmod_nat z 10
  have hz10 : z % 10 < 10 := Nat.mod_lt _ (by decide)
  generalize z % 10 = y at *
  simp (maxSteps := 1000000) (disch := omega) only [WS, List.getElem_cons_zero, List.getElem_cons_succ, Option.isNone_some, Option.isNone_none, List.getD_cons_zero, List.getD_cons_succ, I.at, atL, atO, atP, evp, evs, retV, ↓reduceIte, Nat.reduceEqDiff, reduceCtorEq, AS, (h.up B).Xlen, X_rem, h10, hr, e2, hz, w_nat, e3]
  generalize hM : y + 1 = M at *
  have hM1 : 1 ≤ M := by omega
  have hM10 : M ≤ 10 := by omega
  refine loop_of (fun t w' => w' = w1 ∧ t 0 = s ∧ t 1 = .int .i64 (M : Int) ∧ t 5 = .int .i64 (l.length : Int) ∧ ∃ u : Nat, t 6 = .int .i64 ((2 ^ u : Nat) : Int) ∧ u ≤ 4 ∧ (u = 0 ∨ 2 ^ u < 2 * M)) (fun t _ => 20 - (toI (t 6)).toNat) ⟨rfl, by simp only [WS, List.getElem_cons_zero, List.getElem_cons_succ, Option.isNone_some, Option.isNone_none, List.getD_cons_zero, List.getD_cons_succ, I.at, atL, atO, atP, evp, evs, retV, ↓reduceIte, Nat.reduceEqDiff, reduceCtorEq], by simp only [WS, List.getElem_cons_zero, List.getElem_cons_succ, Option.isNone_some, Option.isNone_none, List.getD_cons_zero, List.getD_cons_succ, I.at, atL, atO, atP, evp, evs, retV, ↓reduceIte, Nat.reduceEqDiff, reduceCtorEq], by simp only [WS, List.getElem_cons_zero, List.getElem_cons_succ, Option.isNone_some, Option.isNone_none, List.getD_cons_zero, List.getD_cons_succ, I.at, atL, atO, atP, evp, evs, retV, ↓reduceIte, Nat.reduceEqDiff, reduceCtorEq], 0, by simp only [WS, List.getElem_cons_zero, List.getElem_cons_succ, Option.isNone_some, Option.isNone_none, List.getD_cons_zero, List.getD_cons_succ, I.at, atL, atO, atP, evp, evs, retV, ↓reduceIte, Nat.reduceEqDiff, reduceCtorEq]; rfl, by omega, Or.inl rfl⟩ ?_
  rintro t w' ⟨rfl, t0, t1, t5, u, t6, hu, hum⟩
  have hp := Nat.two_pow_pos u
  have hp4 : 2 ^ u ≤ 2 ^ 4 := Nat.pow_le_pow_right (by omega) hu
  have hp2 : 2 ^ (u + 1) = 2 * 2 ^ u := by rw [Nat.pow_succ, Nat.mul_comm]
  by_cases hlt : 2 ^ u < M
  · simp (maxSteps := 1000000) (disch := omega) only [WS, List.getElem_cons_zero, List.getElem_cons_succ, Option.isNone_some, Option.isNone_none, List.getD_cons_zero, List.getD_cons_succ, I.at, atL, atO, atP, evp, evs, retV, ↓reduceIte, Nat.reduceEqDiff, reduceCtorEq, AS, t0, t1, t5, t6]
    refine ⟨⟨u + 1, by rw [hp2], Nat.le_of_not_lt fun h4 => ?_, Or.inr (by omega)⟩, by simp only [Int.toNat_natCast]; omega⟩
    have : u = 4 := by omega
    subst this
    omega
  have hbl : blen (M - 1) = u := by
    cases u with
    | zero => have : M = 1 := by (simp at hlt; omega)
              rw [this]; rfl
    | succ u =>
      have hq2 : 2 ^ (u + 1) = 2 * 2 ^ u := by rw [Nat.pow_succ, Nat.mul_comm]
      exact blen_eq (by omega) (by omega)
  simp (maxSteps := 1000000) (disch := omega) only [WS, List.getElem_cons_zero, List.getElem_cons_succ, Option.isNone_some, Option.isNone_none, List.getD_cons_zero, List.getD_cons_succ, I.at, atL, atO, atP, evp, evs, retV, ↓reduceIte, Nat.reduceEqDiff, reduceCtorEq, AS, t0, t1, t5, t6]
  refine X_bsl (zs := ([] : List (El 16))) (by rfl) (by rfl) fun e0 w2 oe hB => ?_
  have oe := oe.mono B.size
  have B := B.trans (hB.mono B.size)
  clear hB
  simp (maxSteps := 1000000) (disch := omega) only [WS, List.getElem_cons_zero, List.getElem_cons_succ, Option.isNone_some, Option.isNone_none, List.getD_cons_zero, List.getD_cons_succ, I.at, atL, atO, atP, evp, evs, retV, ↓reduceIte, Nat.reduceEqDiff, reduceCtorEq, AS, t0]
  refine Ow.Xapp oe (h.up B) B.size (by simp only [List.length_nil, maxBytes]; omega) (by simp only [List.length_nil]; omega) fun e1 w3 oe1 hg _ => ?_
  rw [List.nil_append] at oe1
  have B := Below.app B B.size hg fun b hb => (oe.blk b hb).1
  clear hg oe
  have hr0 : ∃ r0, (l.length + r0) % 2 ^ u = 0 ∧ r0 < 2 ^ u := ⟨(2 ^ u - l.length % 2 ^ u) % 2 ^ u, by
    have hlt := Nat.mod_lt l.length hp
    by_cases hz : l.length % 2 ^ u = 0
    · rw [hz, Nat.sub_zero, Nat.mod_self, Nat.add_zero]; exact hz
    · rw [Nat.mod_eq_of_lt (show 2 ^ u - l.length % 2 ^ u < 2 ^ u by omega), Nat.add_mod, Nat.mod_eq_of_lt (show 2 ^ u - l.length % 2 ^ u < 2 ^ u by omega), show l.length % 2 ^ u + (2 ^ u - l.length % 2 ^ u) = 2 ^ u by omega, Nat.mod_self], Nat.mod_lt _ hp⟩
  obtain ⟨r0, hr0, hr1⟩ := hr0
  have hne : (((2 ^ u : Nat) : Int) ≠ 0) = True := eq_true (by omega)
  simp (maxSteps := 1000000) (disch := omega) only [WS, List.getElem_cons_zero, List.getElem_cons_succ, Option.isNone_some, Option.isNone_none, List.getD_cons_zero, List.getD_cons_succ, I.at, atL, atO, atP, evp, evs, retV, ↓reduceIte, Nat.reduceEqDiff, reduceCtorEq, AS, t0, t1, t5, t6]
  refine loop_of (fun t w' => t 0 = s ∧ t 1 = .int .i64 (M : Int) ∧ t 5 = .int .i64 (l.length : Int) ∧ t 6 = .int .i64 ((2 ^ u : Nat) : Int) ∧ RowKit.Below w.heap.size w w' ∧ ∃ (sv : Value) (x : Nat), t 7 = sv ∧ x ≤ r0 ∧ Ow w.heap.size w' sv (l ++ List.replicate x 0)) (fun t _ => match t 7 with | .slice _ n _ => l.length + r0 - n | _ => 0)
    ⟨by simp only [WS, List.getElem_cons_zero, List.getElem_cons_succ, Option.isNone_some, Option.isNone_none, List.getD_cons_zero, List.getD_cons_succ, I.at, atL, atO, atP, evp, evs, retV, ↓reduceIte, Nat.reduceEqDiff, reduceCtorEq]; exact t0, by simp only [WS, List.getElem_cons_zero, List.getElem_cons_succ, Option.isNone_some, Option.isNone_none, List.getD_cons_zero, List.getD_cons_succ, I.at, atL, atO, atP, evp, evs, retV, ↓reduceIte, Nat.reduceEqDiff, reduceCtorEq]; exact t1, by simp only [WS, List.getElem_cons_zero, List.getElem_cons_succ, Option.isNone_some, Option.isNone_none, List.getD_cons_zero, List.getD_cons_succ, I.at, atL, atO, atP, evp, evs, retV, ↓reduceIte, Nat.reduceEqDiff, reduceCtorEq]; exact t5, by simp only [WS, List.getElem_cons_zero, List.getElem_cons_succ, Option.isNone_some, Option.isNone_none, List.getD_cons_zero, List.getD_cons_succ, I.at, atL, atO, atP, evp, evs, retV, ↓reduceIte, Nat.reduceEqDiff, reduceCtorEq]; exact t6, B, e1, 0, by simp only [WS, List.getElem_cons_zero, List.getElem_cons_succ, Option.isNone_some, Option.isNone_none, List.getD_cons_zero, List.getD_cons_succ, I.at, atL, atO, atP, evp, evs, retV, ↓reduceIte, Nat.reduceEqDiff, reduceCtorEq], by omega, by simpa using oe1⟩ ?_
  clear t0 t1 t5 t6 B oe1
  rintro t w4 ⟨t0, t1, t5, t6, B, sv, x, t7, hx, ov⟩
  have hlen : (l ++ List.replicate x (0 : El 16)).length = l.length + x := by simp
  by_cases hmod : (l.length + x) % 2 ^ u = 0
  · have d1 : decide ((((l.length + x) % 2 ^ u : Nat) : Int) = 0) = true := decide_eq_true (by omega)
    obtain ⟨q, hq⟩ : ∃ q, l.length + x = q * 2 ^ u := ⟨(l.length + x) / 2 ^ u, by have := Nat.div_add_mod (l.length + x) (2 ^ u); rw [Nat.mul_comm]; omega⟩
    have hq100 : q * 2 ^ u ≤ 100 := by omega
    have hpad : ∀ i, (co (l ++ List.replicate x (0 : El 16))).c i = (co l).c i := fun i => by
      rw [co_app]
      split
      · rfl
      · rw [co_replicate, co_dg l i (by omega)]; rfl
    simp (maxSteps := 1000000) (disch := omega) only [WS, List.getElem_cons_zero, List.getElem_cons_succ, Option.isNone_some, Option.isNone_none, List.getD_cons_zero, List.getD_cons_succ, I.at, atL, atO, atP, evp, evs, retV, ↓reduceIte, Nat.reduceEqDiff, reduceCtorEq, t0, t1, t5, t6, t7, ov.sl.Xlen, hlen, X_rem, hne, tmod_nat, d1]
    refine X_call0 ((afft_Fold_spec w4 sv _ ((2 ^ u : Nat) : Int) ((2 ^ u : Nat) : Int) ov.sl (by rw [hlen]; omega)).mono ?_)
    have hPu : isP ((2 ^ u : Nat) : Int) = true := (isP_iff _).2 ⟨u, by omega, rfl⟩
    have hCu : isC ((2 ^ u : Nat) : Int) (2 ^ u) (l.length + x) = true := by
      unfold isC
      refine decide_eq_true ⟨by omega, by omega, by omega, by rw [Int.toNat_natCast, Nat.mod_self]⟩
    rw [hlen, Int.toNat_natCast]
    rintro _ w5 ⟨hB, ⟨k, q', hk, hku, hlq, hq0, -, sd, d, rfl, od, ld, hd⟩ | ⟨hbad, -⟩ | ⟨-, hbad, -⟩ | ⟨-, -, hbad, -⟩⟩
    rotate_left
    · rw [hPu] at hbad; cases hbad
    · rcases hbad with h | h
      · omega
      · exact absurd hmod h
    · rw [hCu] at hbad; cases hbad
    obtain rfl : k = u := pow2_inj (by omega)
    obtain rfl : q' = q := Nat.eq_of_mul_eq_mul_right hp (by omega)
    have od := od.sl
    have B := B.trans (hB.mono B.size)
    clear hB
    clear ov
    simp (maxSteps := 1000000) (disch := omega) only [WS, List.getElem_cons_zero, List.getElem_cons_succ, Option.isNone_some, Option.isNone_none, List.getD_cons_zero, List.getD_cons_succ, I.at, atL, atO, atP, evp, evs, retV, ↓reduceIte, Nat.reduceEqDiff, reduceCtorEq, AS, t0, t1, t5, t6, od.Xlen, ld, show decide (((2 ^ k : Nat) : Int) = ((2 ^ k : Nat) : Int)) = true from decide_eq_true rfl]
    refine X_call0 ((fwd_any (a := 0) od ld (by omega) (isC_of (Nat.zero_mod _) (by omega))).mono ?_)
    rintro _ w6 ⟨sv, v, rfl, ov, lv, hv, hB⟩
    have ov := ov.sl
    have B := B.trans (hB.mono B.size)
    clear hB
    simp (maxSteps := 1000000) (disch := omega) only [WS, List.getElem_cons_zero, List.getElem_cons_succ, Option.isNone_some, Option.isNone_none, List.getD_cons_zero, List.getD_cons_succ, I.at, atL, atO, atP, evp, evs, retV, ↓reduceIte, Nat.reduceEqDiff, reduceCtorEq, AS, t0, t1, t5, t6, ov.Xlen, lv, show decide (((2 ^ k : Nat) : Int) = ((2 ^ k : Nat) : Int)) = true from decide_eq_true rfl]
    refine loop_of (fun t w' => t 0 = s ∧ t 1 = .int .i64 (M : Int) ∧ t 5 = .int .i64 (l.length : Int) ∧ t 10 = sv ∧ RowKit.Below w.heap.size w w' ∧ Sl w' sv v ∧ ∃ j : Nat, t 11 = .int .i64 (j : Int) ∧ j ≤ M) (fun t _ => M - (toI (t 11)).toNat)
      ⟨by simp only [WS, List.getElem_cons_zero, List.getElem_cons_succ, Option.isNone_some, Option.isNone_none, List.getD_cons_zero, List.getD_cons_succ, I.at, atL, atO, atP, evp, evs, retV, ↓reduceIte, Nat.reduceEqDiff, reduceCtorEq]; exact t0, by simp only [WS, List.getElem_cons_zero, List.getElem_cons_succ, Option.isNone_some, Option.isNone_none, List.getD_cons_zero, List.getD_cons_succ, I.at, atL, atO, atP, evp, evs, retV, ↓reduceIte, Nat.reduceEqDiff, reduceCtorEq]; exact t1, by simp only [WS, List.getElem_cons_zero, List.getElem_cons_succ, Option.isNone_some, Option.isNone_none, List.getD_cons_zero, List.getD_cons_succ, I.at, atL, atO, atP, evp, evs, retV, ↓reduceIte, Nat.reduceEqDiff, reduceCtorEq]; exact t5, by simp only [WS, List.getElem_cons_zero, List.getElem_cons_succ, Option.isNone_some, Option.isNone_none, List.getD_cons_zero, List.getD_cons_succ, I.at, atL, atO, atP, evp, evs, retV, ↓reduceIte, Nat.reduceEqDiff, reduceCtorEq], B, ov, 0, rfl, by omega⟩ ?_
    clear t0 t1 t5 t6 t7 B ov
    rintro t w7 ⟨t0, t1, t5, t10, B, ov, j, t11, hj⟩
    by_cases hjM : j < M
    · have hj2 : j < 2 ^ k := by omega
      have hsum := parity_sum (k := l.length) (v := (co v).c) (by omega) hq100 hj2 (by omega) hpad rfl hd (hv j hj2)
      simp (maxSteps := 1000000) (disch := omega) only [WS, List.getElem_cons_zero, List.getElem_cons_succ, Option.isNone_some, Option.isNone_none, List.getD_cons_zero, List.getD_cons_succ, I.at, atL, atO, atP, evp, evs, retV, ↓reduceIte, Nat.reduceEqDiff, reduceCtorEq, AS, t0, t1, t5, t10, t11]
      refine X_call0 ((gener_Words_spec w7 l.length M j (by omega) (by omega) hM1 (by omega) hjM).mono ?_)
      rintro _ w8 ⟨sr, row, rfl, or, lr, hr, hB⟩
      rw [hbl] at hr
      have or := or.sl
      have ov := ov.up hB
      have B := B.trans (hB.mono B.size)
      clear hB
      simp (maxSteps := 1000000) (disch := omega) only [WS, List.getElem_cons_zero, List.getElem_cons_succ, Option.isNone_some, Option.isNone_none, List.getD_cons_zero, List.getD_cons_succ, I.at, atL, atO, atP, evp, evs, retV, ↓reduceIte, Nat.reduceEqDiff, reduceCtorEq, AS, t0, t1, t5, t10, t11, or.Xlen, lr, show decide ((l.length : Int) = (l.length : Int)) = true from decide_eq_true rfl]
      refine loop_of (fun t w' => t 0 = s ∧ t 1 = .int .i64 (M : Int) ∧ t 5 = .int .i64 (l.length : Int) ∧ t 10 = sv ∧ t 11 = .int .i64 (j : Int) ∧ t 12 = sr ∧ RowKit.Below w.heap.size w w' ∧ Sl w' sv v ∧ Sl w' sr row ∧ ∃ i : Nat, t 15 = .int .i64 (i : Int) ∧ i ≤ l.length ∧ t 14 = .int .u16 ((esum i (fun i => fac k j i * (co l).c i)).v.toNat : Int)) (fun t _ => l.length - (toI (t 15)).toNat)
        ⟨by simp only [WS, List.getElem_cons_zero, List.getElem_cons_succ, Option.isNone_some, Option.isNone_none, List.getD_cons_zero, List.getD_cons_succ, I.at, atL, atO, atP, evp, evs, retV, ↓reduceIte, Nat.reduceEqDiff, reduceCtorEq]; exact t0, by simp only [WS, List.getElem_cons_zero, List.getElem_cons_succ, Option.isNone_some, Option.isNone_none, List.getD_cons_zero, List.getD_cons_succ, I.at, atL, atO, atP, evp, evs, retV, ↓reduceIte, Nat.reduceEqDiff, reduceCtorEq]; exact t1, by simp only [WS, List.getElem_cons_zero, List.getElem_cons_succ, Option.isNone_some, Option.isNone_none, List.getD_cons_zero, List.getD_cons_succ, I.at, atL, atO, atP, evp, evs, retV, ↓reduceIte, Nat.reduceEqDiff, reduceCtorEq]; exact t5, by simp only [WS, List.getElem_cons_zero, List.getElem_cons_succ, Option.isNone_some, Option.isNone_none, List.getD_cons_zero, List.getD_cons_succ, I.at, atL, atO, atP, evp, evs, retV, ↓reduceIte, Nat.reduceEqDiff, reduceCtorEq]; exact t10, by simp only [WS, List.getElem_cons_zero, List.getElem_cons_succ, Option.isNone_some, Option.isNone_none, List.getD_cons_zero, List.getD_cons_succ, I.at, atL, atO, atP, evp, evs, retV, ↓reduceIte, Nat.reduceEqDiff, reduceCtorEq]; exact t11, by simp only [WS, List.getElem_cons_zero, List.getElem_cons_succ, Option.isNone_some, Option.isNone_none, List.getD_cons_zero, List.getD_cons_succ, I.at, atL, atO, atP, evp, evs, retV, ↓reduceIte, Nat.reduceEqDiff, reduceCtorEq], B, ov, or, 0, rfl, by omega, rfl⟩ ?_
      clear t0 t1 t5 t10 t11 B ov or
      rintro t w9 ⟨t0, t1, t5, t10, t11, t12, B, ov, or, i, t15, hi, t14⟩
      by_cases hil : i < l.length
      · have ir : i < row.length := by omega
        have hsl := (h.up B).drew
        have ord := or.drew
        simp (maxSteps := 1000000) (disch := omega) only [WS, List.getElem_cons_zero, List.getElem_cons_succ, Option.isNone_some, Option.isNone_none, List.getD_cons_zero, List.getD_cons_succ, I.at, atL, atO, atP, evp, evs, retV, ↓reduceIte, Nat.reduceEqDiff, reduceCtorEq, AS, t0, t1, t5, t10, t11, t12, t14, t15]
        refine WP_dops ?_
        simp (maxSteps := 1000000) (disch := omega) only [ES, List.mem_cons, List.not_mem_nil, implies_true, forall_const, WS, List.getElem_cons_zero, List.getElem_cons_succ, Option.isNone_some, Option.isNone_none, List.getD_cons_zero, List.getD_cons_succ, I.at, atL, atO, atP, evp, evs, retV, ↓reduceIte, Nat.reduceEqDiff, reduceCtorEq, AS, t0, t1, t5, t10, t11, t12, t14, t15, hsl.Eix hil, hsl.Eld hil, ord.Eix ir, ord.Eld ir, cell_e16]
        refine E_call0 ((gf16_Mul_spec w9.drew row[i] l[i]).mono ?_)
        rintro _ w10 ⟨rfl, rfl⟩
        simp (maxSteps := 1000000) (disch := omega) only [ES, List.mem_cons, List.not_mem_nil, implies_true, forall_const, WS, List.getElem_cons_zero, List.getElem_cons_succ, Option.isNone_some, Option.isNone_none, List.getD_cons_zero, List.getD_cons_succ, I.at, atL, atO, atP, evp, evs, retV, ↓reduceIte, Nat.reduceEqDiff, reduceCtorEq, AS, t0, t1, t5, t10, t11, t12, t14, t15, xor16]
        refine ⟨⟨B.trans ((bel_drew w9).mono B.size), ov.drew, ord, i + 1, rfl, by omega, ?_⟩, by omega⟩
        rw [← co_get row ir, hr i hil, ← co_get l hil]
        rfl
      · obtain rfl : i = l.length := by omega
        have jv : j < v.length := by omega
        rw [← hsum, co_get v jv] at t14
        simp (maxSteps := 1000000) (disch := omega) only [WS, List.getElem_cons_zero, List.getElem_cons_succ, Option.isNone_some, Option.isNone_none, List.getD_cons_zero, List.getD_cons_succ, I.at, atL, atO, atP, evp, evs, retV, ↓reduceIte, Nat.reduceEqDiff, reduceCtorEq, AS, t0, t1, t5, t10, t11, t12, t14, t15, ov.Xix jv, ov.Xld jv, cell_e16, show decide ((v[j].v.toNat : Int) = (v[j].v.toNat : Int)) = true from decide_eq_true rfl]
        refine ⟨⟨B, ov, j + 1, rfl, by omega⟩, by omega⟩
    · simp (maxSteps := 1000000) (disch := omega) only [WS, List.getElem_cons_zero, List.getElem_cons_succ, Option.isNone_some, Option.isNone_none, List.getD_cons_zero, List.getD_cons_succ, I.at, atL, atO, atP, evp, evs, retV, ↓reduceIte, Nat.reduceEqDiff, reduceCtorEq, AS, t0, t1, t5, t10, t11]
      exact B
  · have d1 : decide ((((l.length + x) % 2 ^ u : Nat) : Int) = 0) = false := decide_eq_false (by omega)
    have hxr : x ≠ r0 := fun e => hmod (e ▸ hr0)
    simp (maxSteps := 1000000) (disch := omega) only [WS, List.getElem_cons_zero, List.getElem_cons_succ, Option.isNone_some, Option.isNone_none, List.getD_cons_zero, List.getD_cons_succ, I.at, atL, atO, atP, evp, evs, retV, ↓reduceIte, Nat.reduceEqDiff, reduceCtorEq, t0, t1, t5, t6, t7, ov.sl.Xlen, hlen, X_rem, hne, tmod_nat, d1]
    refine X_bsl (zs := [(0 : El 16)]) (by rfl) (by rfl) fun e2 w5 oz hB => ?_
    have oz := oz.sl
    have ov := ov.up hB
    have B := B.trans (hB.mono B.size)
    clear hB
    simp (maxSteps := 1000000) (disch := omega) only [WS, List.getElem_cons_zero, List.getElem_cons_succ, Option.isNone_some, Option.isNone_none, List.getD_cons_zero, List.getD_cons_succ, I.at, atL, atO, atP, evp, evs, retV, ↓reduceIte, Nat.reduceEqDiff, reduceCtorEq, AS]
    refine Ow.Xapp ov oz B.size (by simp only [maxBytes, List.length_cons, List.length_nil]; omega) (by simp only [List.length_cons, List.length_nil]; omega) fun e3 w6 ov2 hg _ => ?_
    have B := Below.app B B.size hg fun b hb => (ov.blk b hb).1
    have ov3 : Ow w.heap.size w6 e3 (l ++ List.replicate (x + 1) 0) := by
      rw [List.append_assoc, ← List.replicate_succ'] at ov2; exact ov2
    simp (maxSteps := 1000000) (disch := omega) only [WS, List.getElem_cons_zero, List.getElem_cons_succ, Option.isNone_some, Option.isNone_none, List.getD_cons_zero, List.getD_cons_succ, I.at, atL, atO, atP, evp, evs, retV, ↓reduceIte, Nat.reduceEqDiff, reduceCtorEq, AS, t0, t1, t5, t6]
    refine ⟨⟨B, e3, x + 1, rfl, by omega, ov3⟩, ?_⟩
    obtain ⟨a1, c1, g1, -, -⟩ := ov3.sl.sh
    obtain ⟨a2, c2, g2, -, -⟩ := ov.sl.sh
    rw [g1, g2]
    simp only [List.length_append, List.length_replicate]
    omega
end Go.Proofs.Ytpmfeaajpjjfiaa.Fw
