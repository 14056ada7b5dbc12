import Derived.Test.YtpmfeaajpjjfiaaProg
import Derived.Test.YtpmfeaajpjjfiaaFwTA
import Derived.Test.YtpmfeaajpjjfiaaSS14blA
set_option linter.all false
set_option linter.unusedVariables false
set_option linter.unusedSimpArgs false
set_option maxRecDepth 100000
set_option maxHeartbeats 1000000
namespace Go.Proofs.Ytpmfeaajpjjfiaa.Fw
open Go Go.Fw Go.Proofs
attribute [local irreducible] stepI
def c_culletlaw14_AfftAlls : C := .seq (.ops [⟨0, (some 2), none, .mov (.c (.bool false)), []⟩]) (.seq (.ops [⟨0, (some 3), none, .mov (.t 0), []⟩, ⟨1, (some 4), none, .call (.c (.func (.func 26) #[] #[])) [.t 3, .c (.int .i64 1), .c (.int .i64 6)], []⟩, ⟨2, (some 2), none, .mov (.t 4), []⟩]) .ret)
attribute [irreducible] c_culletlaw14_AfftAlls
theorem run_culletlaw14_AfftAlls {args : List Value} {w : World} {K : Value → World → Prop} (hn : args.length ≤ 5) (h : WP Try.prog c_culletlaw14_AfftAlls (endQ [.t 2] K) (initT args) w) : CallV Try.prog 10 args w K :=
  call_of follows Try.func10 (by kernel_rfl) (by kernel_rfl) hn h
def c_culletlaw14_plays : C := .seq (.ops [⟨0, (some 6), none, .mov (.c (.bool false)), []⟩]) (.seq (.seq (.ops [⟨0, (some 8), none, .call (.c (.func (.func 14) #[] #[])) [], []⟩, ⟨1, (some 9), none, .un .not (.t 8), []⟩]) (.ite (.t 9) (.seq (.ops [⟨0, (some 6), none, .mov (.c (.bool false)), []⟩]) .ret) .skip)) (.seq (.seq (.ops [⟨0, (some 7), none, .mov (.c (.int .i64 0)), []⟩]) (.block 0 (.loop (.seq (.seq (.ops [⟨0, (some 10), none, .mov (.t 7), []⟩, ⟨1, (some 11), none, .mov (.t 0), []⟩, ⟨2, (some 12), none, .len (.t 11), []⟩, ⟨3, (some 13), none, .bin .lss (.t 10) (.t 12), []⟩]) (.ite (.t 13) .skip (.exit 0))) (.seq (.block 1 (.seq (.ops [⟨0, (some 16), none, .mov (.t 0), []⟩, ⟨1, (some 17), none, .mov (.t 7), []⟩, ⟨2, (some 18), none, .ixs 5 (.t 16) (.t 17), []⟩, ⟨3, (some 19), none, .fad 0 (.t 18), []⟩, ⟨4, (some 20), none, .ld (.t 19), []⟩, ⟨5, (some 21), none, .mov (.t 1), []⟩, ⟨6, (some 22), none, .bin .geq (.t 20) (.t 21), []⟩, ⟨7, (some 23), none, .mov (.t 22), []⟩, ⟨8, (some 24), (some (23, true)), .mov (.t 0), []⟩, ⟨9, (some 25), (some (23, true)), .mov (.t 7), []⟩, ⟨10, (some 26), (some (23, true)), .ixs 5 (.t 24) (.t 25), []⟩, ⟨11, (some 27), (some (23, true)), .fad 0 (.t 26), []⟩, ⟨12, (some 28), (some (23, true)), .ld (.t 27), []⟩, ⟨13, (some 29), (some (23, true)), .mov (.t 2), []⟩, ⟨14, (some 30), (some (23, true)), .bin .leq (.t 28) (.t 29), []⟩, ⟨15, (some 31), none, .pick (.t 23) (.t 30) (.c (.bool false)), []⟩, ⟨16, (some 32), none, .mov (.t 31), []⟩, ⟨17, (some 33), (some (32, true)), .mov (.t 0), []⟩, ⟨18, (some 34), (some (32, true)), .mov (.t 7), []⟩, ⟨19, (some 35), (some (32, true)), .ixs 5 (.t 33) (.t 34), []⟩, ⟨20, (some 36), (some (32, true)), .ldn 5 (.t 35), []⟩, ⟨21, (some 37), (some (32, true)), .call (.c (.func (.func 42) #[] #[])) [.t 36], []⟩, ⟨22, (some 38), (some (32, true)), .un .not (.t 37), []⟩, ⟨23, (some 39), none, .pick (.t 32) (.t 38) (.c (.bool false)), []⟩]) (.ite (.t 39) (.seq (.ops [⟨0, (some 6), none, .mov (.c (.bool false)), []⟩]) .ret) .skip))) (.ops [⟨0, (some 14), none, .mov (.t 7), []⟩, ⟨1, (some 15), none, .bin .add (.t 14) (.c (.int .i64 1)), []⟩, ⟨2, (some 7), none, .mov (.t 15), []⟩])))))) (.seq (.ops [⟨0, (some 6), none, .mov (.c (.bool true)), []⟩]) .ret)))
attribute [irreducible] c_culletlaw14_plays
theorem run_culletlaw14_plays {args : List Value} {w : World} {K : Value → World → Prop} (hn : args.length ≤ 40) (h : WP Try.prog c_culletlaw14_plays (endQ [.t 6] K) (initT args) w) : CallV Try.prog 26 args w K :=
  call_of follows Try.func26 (by kernel_rfl) (by kernel_rfl) hn h
end Go.Proofs.Ytpmfeaajpjjfiaa.Fw
namespace Go.Proofs.Ytpmfeaajpjjfiaa.Fw
open Go Go.Fw
def elF (m : Nat) (s : Value) (i o : Nat) : Value := .pointer (some (((bs s).add (i * m)).add o))
theorem X_fadW {m : Nat} {s : Value} {i : Nat} (o : Nat) (P : Program) (d : Option Nat) (l : List D) (Q : T → World → Prop) (t : T) (w : World) : XW P (.fad o (.c (elW m s i))) d l Q t w = W P Q l (put t d (elF m s i o)) w := propext Iff.rfl
theorem XldF {m : Nat} {w : World} {s : Value} {rows : List (List Value)} (h : Slw m w s rows) {i o : Nat} {v : Value} (hi : i < rows.length) (hv : rows[i][o]? = some v) (P : Program) (d : Option Nat) (l : List D) (Q : T → World → Prop) (t : T) :
    XW P (.ld (.c (elF m s i o))) d l Q t w = W P Q l (put t d v) w := by
  have hr := h.rd i _ (List.getElem?_eq_getElem hi) o v hv
  apply propext
  constructor
  · rintro ⟨u, hu, hk⟩
    rw [hr] at hu; cases hu; exact hk
  · intro hk; exact ⟨v, hr, hk⟩
theorem culletlaw14_plays_spec (w : World) (s : Value) (rows : List (List Value)) (lo hi : Int) (h : Slw 5 w s rows) (hb : rows.length ≤ 70368744175616) (hq : ∀ vs ∈ rows, ∃ k, Op5 w vs k) (hk : 1 ≤ lo ∧ hi ≤ 6) :
    CallV Try.prog 26 [s, .int .i64 lo, .int .i64 hi] w fun v w' => v = .bool true ∧ RowKit.Below w.heap.size w w' := by
  refine run_culletlaw14_plays (by simp) ?_
  simp only [c_culletlaw14_plays, WS, List.getElem_cons_zero, List.getElem_cons_succ, Option.isNone_some, Option.isNone_none, List.getD_cons_zero, List.getD_cons_succ, I.at, atL, atO, atP, evp, evs, retV, ↓reduceIte, Nat.reduceEqDiff, reduceCtorEq]
  refine X_call0 ((culletlaw14_awake_spec w).mono ?_)
  rintro _ w1 ⟨rfl, hB⟩
  have B := hB
  clear hB
  simp (maxSteps := 1000000) (disch := omega) only [WS, List.getElem_cons_zero, List.getElem_cons_succ, Option.isNone_some, Option.isNone_none, List.getD_cons_zero, List.getD_cons_succ, I.at, atL, atO, atP, evp, evs, retV, ↓reduceIte, Nat.reduceEqDiff, reduceCtorEq, AS]
  refine loop_of (fun t w' => t 0 = s ∧ t 1 = .int .i64 lo ∧ t 2 = .int .i64 hi ∧ RowKit.Below w.heap.size w w' ∧ ∃ n : Nat, t 7 = .int .i64 (n : Int) ∧ n ≤ rows.length) (fun t _ => rows.length - (toI (t 7)).toNat) ⟨by simp only [WS, List.getElem_cons_zero, List.getElem_cons_succ, Option.isNone_some, Option.isNone_none, List.getD_cons_zero, List.getD_cons_succ, I.at, atL, atO, atP, evp, evs, retV, ↓reduceIte, Nat.reduceEqDiff, reduceCtorEq], by simp only [WS, List.getElem_cons_zero, List.getElem_cons_succ, Option.isNone_some, Option.isNone_none, List.getD_cons_zero, List.getD_cons_succ, I.at, atL, atO, atP, evp, evs, retV, ↓reduceIte, Nat.reduceEqDiff, reduceCtorEq], by simp only [WS, List.getElem_cons_zero, List.getElem_cons_succ, Option.isNone_some, Option.isNone_none, List.getD_cons_zero, List.getD_cons_succ, I.at, atL, atO, atP, evp, evs, retV, ↓reduceIte, Nat.reduceEqDiff, reduceCtorEq], B, 0, rfl, by omega⟩ ?_
  clear B
  rintro t w2 ⟨t0, t1, t2, B, n, t7, hn⟩
  have hs := h.up B
  by_cases hlt : n < rows.length
  · obtain ⟨k, hop⟩ := hq _ (List.getElem_mem hlt)
    have hop := hop.up B
    have hk0 : rows[n][0]? = some (.int .i64 k) := by
      obtain ⟨V, Rs, LV, hin, R, a, m, e, -⟩ := hop.ex
      rw [e]; rfl
    by_cases h1 : lo ≤ k
    · by_cases h2 : k ≤ hi
      · simp (maxSteps := 1000000) (disch := omega) only [WS, List.getElem_cons_zero, List.getElem_cons_succ, Option.isNone_some, Option.isNone_none, List.getD_cons_zero, List.getD_cons_succ, I.at, atL, atO, atP, evp, evs, retV, ↓reduceIte, Nat.reduceEqDiff, reduceCtorEq, AS, t0, t1, t2, t7, hs.Xlen, hs.Xix hlt, X_fadW, XldF hs hlt hk0, hs.Xldn hlt]
        refine X_call0 ((culletlaw14_one_spec w2 _ k hop ⟨by omega, by omega⟩).mono ?_)
        rintro _ w3 ⟨rfl, hB⟩
        simp (maxSteps := 1000000) (disch := omega) only [WS, List.getElem_cons_zero, List.getElem_cons_succ, Option.isNone_some, Option.isNone_none, List.getD_cons_zero, List.getD_cons_succ, I.at, atL, atO, atP, evp, evs, retV, ↓reduceIte, Nat.reduceEqDiff, reduceCtorEq, AS, t0, t1, t2, t7]
        exact ⟨⟨B.trans (hB.mono B.size), n + 1, rfl, by omega⟩, by omega⟩
      · simp (maxSteps := 1000000) (disch := omega) only [WS, List.getElem_cons_zero, List.getElem_cons_succ, Option.isNone_some, Option.isNone_none, List.getD_cons_zero, List.getD_cons_succ, I.at, atL, atO, atP, evp, evs, retV, ↓reduceIte, Nat.reduceEqDiff, reduceCtorEq, AS, t0, t1, t2, t7, hs.Xlen, hs.Xix hlt, X_fadW, XldF hs hlt hk0, hs.Xldn hlt]
        exact ⟨⟨B, n + 1, rfl, by omega⟩, by omega⟩
    · simp (maxSteps := 1000000) (disch := omega) only [WS, List.getElem_cons_zero, List.getElem_cons_succ, Option.isNone_some, Option.isNone_none, List.getD_cons_zero, List.getD_cons_succ, I.at, atL, atO, atP, evp, evs, retV, ↓reduceIte, Nat.reduceEqDiff, reduceCtorEq, AS, t0, t1, t2, t7, hs.Xlen, hs.Xix hlt, X_fadW, XldF hs hlt hk0, hs.Xldn hlt]
      exact ⟨⟨B, n + 1, rfl, by omega⟩, by omega⟩
  · obtain rfl : n = rows.length := by omega
    simp (maxSteps := 1000000) (disch := omega) only [WS, List.getElem_cons_zero, List.getElem_cons_succ, Option.isNone_some, Option.isNone_none, List.getD_cons_zero, List.getD_cons_succ, I.at, atL, atO, atP, evp, evs, retV, ↓reduceIte, Nat.reduceEqDiff, reduceCtorEq, AS, t0, t1, t2, t7, hs.Xlen]
    exact B
theorem culletlaw14_AfftAlls_spec (w : World) (s : Value) (rows : List (List Value)) (h : Slw 5 w s rows) (hb : rows.length ≤ 70368744175616) (hq : ∀ vs ∈ rows, ∃ k, Op5 w vs k) :
    CallV Try.prog 10 [s] w fun v w' => v = .bool true ∧ RowKit.Below w.heap.size w w' := by
  refine run_culletlaw14_AfftAlls (by simp) ?_
  simp only [c_culletlaw14_AfftAlls, WS, List.getElem_cons_zero, List.getElem_cons_succ, Option.isNone_some, Option.isNone_none, List.getD_cons_zero, List.getD_cons_succ, I.at, atL, atO, atP, evp, evs, retV, ↓reduceIte, Nat.reduceEqDiff, reduceCtorEq]
  refine X_call0 ((culletlaw14_plays_spec w s rows 1 6 h hb hq (by omega)).mono ?_)
  rintro _ w1 ⟨rfl, hB⟩
  simp (maxSteps := 1000000) (disch := omega) only [WS, List.getElem_cons_zero, List.getElem_cons_succ, Option.isNone_some, Option.isNone_none, List.getD_cons_zero, List.getD_cons_succ, I.at, atL, atO, atP, evp, evs, retV, ↓reduceIte, Nat.reduceEqDiff, reduceCtorEq, AS]
  exact hB
end Go.Proofs.Ytpmfeaajpjjfiaa.Fw
