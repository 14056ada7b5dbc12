import Derived.Test.YtpmfeaajpjjfiaaGfLA
import Derived.Test.YtpmfeaajpjjfiaaProg
import Derived.Test.YtpmfeaajpjjfiaaFwTA
import Derived.Test.YtpmfeaajpjjfiaaSS14bcA
import Derived.Test.YtpmfeaajpjjfiaaSS14iA
set_option linter.all false
/- The transform by halves (culletref14). -/
set_option linter.unusedVariables false
set_option linter.unusedSimpArgs false
namespace Go.Fw
open Go
theorem itF_half {a k : Nat} {f lo hi : Nat → El 16} (hlo : ∀ i, i < 2 ^ k → lo i = f i + wel (a / 2 ^ k) * f (2 ^ k + i)) (hhi : ∀ i, i < 2 ^ k → hi i = f i + wel (a / 2 ^ k) * f (2 ^ k + i) + f (2 ^ k + i)) (i : Nat) (h : i < 2 ^ k) :
    itF a (k + 1) f i = itF a k lo i ∧ itF a (k + 1) f (2 ^ k + i) = itF (a + 2 ^ k) k hi i := by
  have h0 : 0 < 2 ^ k := Nat.two_pow_pos k
  constructor
  · show itF a k (bfn k a f) i = _
    refine itF_loc (n := 2 ^ k) (Nat.mod_self _) (fun j hj => ?_) i h
    unfold bfn
    rw [Nat.mod_eq_of_lt (show j < 2 * 2 ^ k by omega), if_pos hj, Nat.sub_self, Nat.add_zero, Nat.shiftRight_eq_div_pow, hlo j hj, Nat.add_comm j]
  · show itF a k (bfn k a f) (2 ^ k + i) = _
    rw [itF_sh _ (Nat.mod_self _)]
    refine itF_loc (n := 2 ^ k) (Nat.mod_self _) (fun j hj => ?_) i h
    unfold bfn
    rw [Nat.mod_eq_of_lt (show 2 ^ k + j < 2 * 2 ^ k by omega), if_neg (by omega), Nat.sub_self, Nat.add_zero, Nat.shiftRight_eq_div_pow, hhi j hj, Nat.add_sub_cancel_left]
theorem itI_half {a k : Nat} {f lo hi : Nat → El 16} (hlo : ∀ i, i < 2 ^ k → lo i = f i) (hhi : ∀ i, i < 2 ^ k → hi i = f (2 ^ k + i)) (i : Nat) (h : i < 2 ^ k) :
    itI a (k + 1) f (2 ^ k + i) = itI a k lo i + itI (a + 2 ^ k) k hi i ∧ itI a (k + 1) f i = itI a k lo i + wel (a / 2 ^ k) * (itI a k lo i + itI (a + 2 ^ k) k hi i) := by
  have h0 : 0 < 2 ^ k := Nat.two_pow_pos k
  have e1 : itI a k f i = itI a k lo i := itI_loc (n := 2 ^ k) (Nat.mod_self _) (fun j hj => (hlo j hj).symm) i h
  have e2 : itI a k f (2 ^ k + i) = itI (a + 2 ^ k) k hi i := by
    rw [itI_sh _ (Nat.mod_self _)]
    exact itI_loc (n := 2 ^ k) (Nat.mod_self _) (fun j hj => (hhi j hj).symm) i h
  constructor
  · show bin' k a (itI a k f) (2 ^ k + i) = _
    unfold bin'
    rw [Nat.mod_eq_of_lt (show 2 ^ k + i < 2 * 2 ^ k by omega), if_neg (by omega), Nat.add_sub_cancel_left, e1, e2]
  · show bin' k a (itI a k f) i = _
    unfold bin'
    rw [Nat.mod_eq_of_lt (show i < 2 * 2 ^ k by omega), if_pos h, Nat.sub_self, Nat.add_zero, Nat.shiftRight_eq_div_pow, Nat.add_comm i, e1, e2]
end Go.Fw

set_option linter.unusedVariables false
set_option linter.unusedSimpArgs false
set_option maxRecDepth 100000
set_option maxHeartbeats 1000000
namespace Go.Proofs.Ytpmfeaajpjjfiaa.Fw
open Go Go.Fw Go.Proofs
attribute [local irreducible] stepI
def c_culletref14_Power : C := .seq (.ops [⟨0, (some 2), none, .mov (.c (.bool false)), []⟩]) (.seq (.seq (.ops [⟨0, (some 3), none, .mov (.c (.int .i64 1)), []⟩]) (.block 0 (.loop (.seq (.seq (.ops [⟨0, (some 4), none, .mov (.t 3), []⟩, ⟨1, (some 5), none, .bin .leq (.t 4) (.c (.int .i64 65536)), []⟩]) (.ite (.t 5) .skip (.exit 0))) (.seq (.block 1 (.seq (.ops [⟨0, (some 8), none, .mov (.t 3), []⟩, ⟨1, (some 9), none, .mov (.t 0), []⟩, ⟨2, (some 10), none, .bin .eql (.t 8) (.t 9), []⟩]) (.ite (.t 10) (.seq (.ops [⟨0, (some 2), none, .mov (.c (.bool true)), []⟩]) .ret) .skip))) (.ops [⟨0, (some 6), none, .mov (.t 3), []⟩, ⟨1, (some 7), none, .bin .mul (.c (.int .i64 2)) (.t 6), []⟩, ⟨2, (some 3), none, .mov (.t 7), []⟩])))))) (.seq (.ops [⟨0, (some 2), none, .mov (.c (.bool false)), []⟩]) .ret))
attribute [irreducible] c_culletref14_Power
theorem run_culletref14_Power {args : List Value} {w : World} {K : Value → World → Prop} (hn : args.length ≤ 11) (h : WP Try.prog c_culletref14_Power (endQ [.t 2] K) (initT args) w) : CallV Try.prog 70 args w K :=
  call_of follows Try.func70 (by kernel_rfl) (by kernel_rfl) hn h
def c_culletref14_Coset : C := .seq (.ops [⟨0, (some 6), none, .mov (.c (.bool false)), []⟩]) (.seq (.ops [⟨0, (some 7), none, .mov (.t 0), []⟩, ⟨1, (some 8), none, .bin .geq (.t 7) (.c (.int .i64 0)), []⟩, ⟨2, (some 9), none, .mov (.t 8), []⟩, ⟨3, (some 10), (some (9, true)), .mov (.t 0), []⟩, ⟨4, (some 11), (some (9, true)), .bin .leq (.t 10) (.c (.int .i64 65536)), []⟩, ⟨5, (some 12), none, .pick (.t 9) (.t 11) (.c (.bool false)), []⟩, ⟨6, (some 13), none, .mov (.t 12), []⟩, ⟨7, (some 14), (some (13, true)), .mov (.t 2), []⟩, ⟨8, (some 15), (some (13, true)), .bin .leq (.t 14) (.c (.int .i64 65536)), []⟩, ⟨9, (some 16), none, .pick (.t 13) (.t 15) (.c (.bool false)), []⟩, ⟨10, (some 17), none, .mov (.t 16), []⟩, ⟨11, (some 18), (some (17, true)), .mov (.t 0), []⟩, ⟨12, (some 19), (some (17, true)), .mov (.t 2), []⟩, ⟨13, (some 20), (some (17, true)), .bin .add (.t 18) (.t 19), []⟩, ⟨14, (some 21), (some (17, true)), .bin .leq (.t 20) (.c (.int .i64 65536)), []⟩, ⟨15, (some 22), none, .pick (.t 17) (.t 21) (.c (.bool false)), []⟩, ⟨16, (some 23), none, .mov (.t 22), []⟩, ⟨17, (some 24), (some (23, true)), .mov (.t 0), []⟩, ⟨18, (some 25), (some (23, true)), .mov (.t 1), []⟩, ⟨19, (some 26), (some (23, true)), .bin .rem (.t 24) (.t 25), []⟩, ⟨20, (some 27), (some (23, true)), .bin .eql (.t 26) (.c (.int .i64 0)), []⟩, ⟨21, (some 28), none, .pick (.t 23) (.t 27) (.c (.bool false)), []⟩, ⟨22, (some 6), none, .mov (.t 28), []⟩]) .ret)
attribute [irreducible] c_culletref14_Coset
theorem run_culletref14_Coset {args : List Value} {w : World} {K : Value → World → Prop} (hn : args.length ≤ 29) (h : WP Try.prog c_culletref14_Coset (endQ [.t 6] K) (initT args) w) : CallV Try.prog 71 args w K :=
  call_of follows Try.func71 (by kernel_rfl) (by kernel_rfl) hn h
def c_culletref14_values : C := .seq (.ops [⟨0, (some 6), none, .mov (.c (.slice none 0 0)), []⟩]) (.seq (.ops [⟨0, (some 14), none, .mov (.t 0), []⟩, ⟨1, (some 15), none, .len (.t 14), []⟩, ⟨2, (some 7), none, .mov (.t 15), []⟩]) (.seq (.seq (.ops [⟨0, (some 16), none, .mov (.t 7), []⟩, ⟨1, (some 17), none, .bin .eql (.t 16) (.c (.int .i64 1)), []⟩]) (.ite (.t 17) (.seq (.ops [⟨0, (some 18), none, .mov (.t 0), []⟩, ⟨1, (some 19), none, .ixs 1 (.t 18) (.c (.int .i64 0)), []⟩, ⟨2, (some 20), none, .ld (.t 19), []⟩, ⟨3, (some 21), none, .bsl 31 1 [.int .u16 0] [(0, (1, .t 20))], []⟩, ⟨4, (some 6), none, .mov (.t 21), []⟩]) .ret) .skip)) (.seq (.ops [⟨0, (some 22), none, .mov (.t 7), []⟩, ⟨1, (some 23), none, .bin .quo (.t 22) (.c (.int .i64 2)), []⟩, ⟨2, (some 8), none, .mov (.t 23), []⟩]) (.seq (.ops [⟨0, (some 24), none, .mov (.t 2), []⟩, ⟨1, (some 25), none, .mov (.t 1), []⟩, ⟨2, (some 26), none, .mov (.t 8), []⟩, ⟨3, (some 27), none, .bin .quo (.t 25) (.t 26), []⟩, ⟨4, (some 28), none, .ixs 1 (.t 24) (.t 27), []⟩, ⟨5, (some 29), none, .ld (.t 28), []⟩, ⟨6, (some 9), none, .mov (.t 29), []⟩]) (.seq (.ops [⟨0, (some 30), none, .mov (.t 8), []⟩, ⟨1, (some 31), none, .mks 31 2 [.int .u16 0] (.t 30) (.t 30), []⟩, ⟨2, (some 10), none, .mov (.t 31), []⟩]) (.seq (.ops [⟨0, (some 32), none, .mov (.t 8), []⟩, ⟨1, (some 33), none, .mks 31 2 [.int .u16 0] (.t 32) (.t 32), []⟩, ⟨2, (some 11), none, .mov (.t 33), []⟩]) (.seq (.seq (.ops [⟨0, (some 12), none, .mov (.c (.int .i64 0)), []⟩]) (.block 0 (.loop (.seq (.seq (.ops [⟨0, (some 34), none, .mov (.t 12), []⟩, ⟨1, (some 35), none, .mov (.t 8), []⟩, ⟨2, (some 36), none, .bin .lss (.t 34) (.t 35), []⟩]) (.ite (.t 36) .skip (.exit 0))) (.seq (.block 1 (.seq (.ops [⟨0, (some 39), none, .mov (.t 9), []⟩, ⟨1, (some 40), none, .mov (.t 0), []⟩, ⟨2, (some 41), none, .mov (.t 8), []⟩, ⟨3, (some 42), none, .mov (.t 12), []⟩, ⟨4, (some 43), none, .bin .add (.t 41) (.t 42), []⟩, ⟨5, (some 44), none, .ixs 1 (.t 40) (.t 43), []⟩, ⟨6, (some 45), none, .ld (.t 44), []⟩, ⟨7, (some 46), none, .call (.c (.func (.func 80) #[] #[])) [.t 39, .t 45], []⟩, ⟨8, (some 13), none, .mov (.t 46), []⟩]) (.seq (.ops [⟨0, (some 47), none, .mov (.t 10), []⟩, ⟨1, (some 48), none, .mov (.t 12), []⟩, ⟨2, (some 49), none, .mov (.t 0), []⟩, ⟨3, (some 50), none, .mov (.t 12), []⟩, ⟨4, (some 51), none, .ixs 1 (.t 49) (.t 50), []⟩, ⟨5, (some 52), none, .ld (.t 51), []⟩, ⟨6, (some 53), none, .mov (.t 13), []⟩, ⟨7, (some 54), none, .bin .xor (.t 52) (.t 53), []⟩, ⟨8, (some 55), none, .ixs 1 (.t 47) (.t 48), []⟩, ⟨9, none, none, .st (.t 55) (.t 54), []⟩]) (.dops [⟨0, (some 56), none, .mov (.t 11), []⟩, ⟨1, (some 57), none, .mov (.t 12), []⟩, ⟨2, (some 58), none, .mov (.t 0), []⟩, ⟨3, (some 59), none, .mov (.t 12), []⟩, ⟨4, (some 60), none, .ixs 1 (.t 58) (.t 59), []⟩, ⟨5, (some 61), none, .ld (.t 60), []⟩, ⟨6, (some 62), none, .mov (.t 13), []⟩, ⟨7, (some 63), none, .bin .xor (.t 61) (.t 62), []⟩, ⟨8, (some 64), none, .mov (.t 0), []⟩, ⟨9, (some 65), none, .mov (.t 8), []⟩, ⟨10, (some 66), none, .mov (.t 12), []⟩, ⟨11, (some 67), none, .bin .add (.t 65) (.t 66), []⟩, ⟨12, (some 68), none, .ixs 1 (.t 64) (.t 67), []⟩, ⟨13, (some 69), none, .ld (.t 68), []⟩, ⟨14, (some 70), none, .bin .xor (.t 63) (.t 69), []⟩, ⟨15, (some 71), none, .ixs 1 (.t 56) (.t 57), []⟩, ⟨16, none, none, .st (.t 71) (.t 70), []⟩])))) (.ops [⟨0, (some 37), none, .mov (.t 12), []⟩, ⟨1, (some 38), none, .bin .add (.t 37) (.c (.int .i64 1)), []⟩, ⟨2, (some 12), none, .mov (.t 38), []⟩])))))) (.seq (.ops [⟨0, (some 72), none, .mov (.t 10), []⟩, ⟨1, (some 73), none, .mov (.t 1), []⟩, ⟨2, (some 74), none, .mov (.t 2), []⟩, ⟨3, (some 75), none, .call (.c (.func (.func 72) #[] #[])) [.t 72, .t 73, .t 74], []⟩, ⟨4, (some 76), none, .mov (.t 11), []⟩, ⟨5, (some 77), none, .mov (.t 1), []⟩, ⟨6, (some 78), none, .mov (.t 8), []⟩, ⟨7, (some 79), none, .bin .add (.t 77) (.t 78), []⟩, ⟨8, (some 80), none, .mov (.t 2), []⟩, ⟨9, (some 81), none, .call (.c (.func (.func 72) #[] #[])) [.t 76, .t 79, .t 80], []⟩, ⟨10, (some 82), none, .app 31 2 [.int .u16 0] (.t 75) (.t 81), []⟩, ⟨11, (some 6), none, .mov (.t 82), []⟩]) .ret))))))))
attribute [irreducible] c_culletref14_values
theorem run_culletref14_values {args : List Value} {w : World} {K : Value → World → Prop} (hn : args.length ≤ 83) (h : WP Try.prog c_culletref14_values (endQ [.t 6] K) (initT args) w) : CallV Try.prog 72 args w K :=
  call_of follows Try.func72 (by kernel_rfl) (by kernel_rfl) hn h
def c_culletref03_Elements : C := .seq (.ops [⟨0, (some 0), none, .mov (.c (.slice none 0 0)), []⟩]) (.seq (.ops [⟨0, (some 1), none, .call (.c (.func (.func 81) #[] #[])) [.c (.int .i64 16)], []⟩, ⟨1, (some 0), none, .mov (.t 1), []⟩]) .ret)
attribute [irreducible] c_culletref03_Elements
theorem run_culletref03_Elements {args : List Value} {w : World} {K : Value → World → Prop} (hn : args.length ≤ 2) (h : WP Try.prog c_culletref03_Elements (endQ [.t 0] K) (initT args) w) : CallV Try.prog 73 args w K :=
  call_of follows Try.func73 (by kernel_rfl) (by kernel_rfl) hn h
end Go.Proofs.Ytpmfeaajpjjfiaa.Fw
namespace Go.Proofs.Ytpmfeaajpjjfiaa.Fw
open Go Go.Fw
theorem culletref14_Power_spec (w : World) (n : Int) : CallV Try.prog 70 [.int .i64 n] w fun v w' => v = .bool (isP n) ∧ w' = w := by
  refine run_culletref14_Power (by simp) ?_
  simp only [c_culletref14_Power, WS, List.getElem_cons_zero, List.getElem_cons_succ, Option.isNone_some, Option.isNone_none, List.getD_cons_zero, List.getD_cons_succ, I.at, atL, atO, atP, evp, evs, retV, ↓reduceIte, Nat.reduceEqDiff, reduceCtorEq]
  refine loop_of (fun t w' => w' = w ∧ t 0 = .int .i64 n ∧ ∃ k : Nat, t 3 = .int .i64 ((2 ^ k : Nat) : Int) ∧ k ≤ 17 ∧ ∀ j, j < k → n ≠ ((2 ^ j : Nat) : Int)) (fun t _ => 200000 - (toI (t 3)).toNat)
    ⟨rfl, by simp only [WS, List.getElem_cons_zero, List.getElem_cons_succ, Option.isNone_some, Option.isNone_none, List.getD_cons_zero, List.getD_cons_succ, I.at, atL, atO, atP, evp, evs, retV, ↓reduceIte, Nat.reduceEqDiff, reduceCtorEq], 0, by simp only [WS, List.getElem_cons_zero, List.getElem_cons_succ, Option.isNone_some, Option.isNone_none, List.getD_cons_zero, List.getD_cons_succ, I.at, atL, atO, atP, evp, evs, retV, ↓reduceIte, Nat.reduceEqDiff, reduceCtorEq]; rfl, by omega, fun j hj => by omega⟩ ?_
  rintro t w' ⟨rfl, t0, k, t3, hk, hj⟩
  have h0 := Nat.two_pow_pos k
  have hp1 : 2 ^ (k + 1) = 2 * 2 ^ k := by rw [Nat.pow_succ, Nat.mul_comm]
  by_cases h16 : k ≤ 16
  · have hle := pow_le16 h16
    by_cases he : ((2 ^ k : Nat) : Int) = n
    · have hP : isP n = true := (isP_iff n).2 ⟨k, h16, he.symm⟩
      simp (maxSteps := 1000000) (disch := omega) only [WS, List.getElem_cons_zero, List.getElem_cons_succ, Option.isNone_some, Option.isNone_none, List.getD_cons_zero, List.getD_cons_succ, I.at, atL, atO, atP, evp, evs, retV, ↓reduceIte, Nat.reduceEqDiff, reduceCtorEq, AS, t0, t3, hP, he]
    · simp (maxSteps := 1000000) (disch := omega) only [WS, List.getElem_cons_zero, List.getElem_cons_succ, Option.isNone_some, Option.isNone_none, List.getD_cons_zero, List.getD_cons_succ, I.at, atL, atO, atP, evp, evs, retV, ↓reduceIte, Nat.reduceEqDiff, reduceCtorEq, AS, t0, t3]
      refine ⟨⟨k + 1, by rw [hp1], by omega, fun j hj2 => ?_⟩, by omega⟩
      by_cases hjk : j = k
      · subst hjk; exact fun e => he e.symm
      · exact hj j (by omega)
  · obtain rfl : k = 17 := by omega
    have h17 : (2 : Nat) ^ 17 = 131072 := rfl
    have hP : isP n = false := by
      cases hx : isP n
      · rfl
      · obtain ⟨j, hj2, e⟩ := (isP_iff n).1 hx
        exact absurd e (hj j (by omega))
    simp (maxSteps := 1000000) (disch := omega) only [WS, List.getElem_cons_zero, List.getElem_cons_succ, Option.isNone_some, Option.isNone_none, List.getD_cons_zero, List.getD_cons_succ, I.at, atL, atO, atP, evp, evs, retV, ↓reduceIte, Nat.reduceEqDiff, reduceCtorEq, AS, t0, t3, hP]
theorem culletref14_Coset_spec (w : World) (a : Int) (n len : Nat) (hn : n ≠ 0) (hl : len ≤ 70368744175616) : CallV Try.prog 71 [.int .i64 a, .int .i64 (n : Int), .int .i64 (len : Int)] w fun v w' => v = .bool (isC a n len) ∧ w' = w := by
  refine run_culletref14_Coset (by simp) ?_
  simp only [c_culletref14_Coset, WS, List.getElem_cons_zero, List.getElem_cons_succ, Option.isNone_some, Option.isNone_none, List.getD_cons_zero, List.getD_cons_succ, I.at, atL, atO, atP, evp, evs, retV, ↓reduceIte, Nat.reduceEqDiff, reduceCtorEq]
  by_cases h1 : 0 ≤ a
  · obtain ⟨a, rfl⟩ : ∃ m : Nat, a = (m : Int) := ⟨a.toNat, by omega⟩
    by_cases h2 : a ≤ 65536
    · by_cases h3 : len ≤ 65536
      · by_cases h4 : a + len ≤ 65536
        · have e : decide (((a % n : Nat) : Int) = 0) = isC (a : Int) n len := by
            unfold isC
            rw [Int.toNat_natCast]
            exact decide_eq_decide.2 ⟨fun h => ⟨h1, by omega, by omega, by omega⟩, fun h => by omega⟩
          have hn' : ((n : Int) ≠ 0) = True := eq_true (by omega)
          simp (maxSteps := 1000000) (disch := omega) only [WS, List.getElem_cons_zero, List.getElem_cons_succ, Option.isNone_some, Option.isNone_none, List.getD_cons_zero, List.getD_cons_succ, I.at, atL, atO, atP, evp, evs, retV, ↓reduceIte, Nat.reduceEqDiff, reduceCtorEq, AS, X_rem, hn', tmod_nat, e]
        · have e : isC (a : Int) n len = false := by unfold isC; exact decide_eq_false (by omega)
          simp (maxSteps := 1000000) (disch := omega) only [WS, List.getElem_cons_zero, List.getElem_cons_succ, Option.isNone_some, Option.isNone_none, List.getD_cons_zero, List.getD_cons_succ, I.at, atL, atO, atP, evp, evs, retV, ↓reduceIte, Nat.reduceEqDiff, reduceCtorEq, AS, e]
      · have e : isC (a : Int) n len = false := by unfold isC; exact decide_eq_false (by omega)
        simp (maxSteps := 1000000) (disch := omega) only [WS, List.getElem_cons_zero, List.getElem_cons_succ, Option.isNone_some, Option.isNone_none, List.getD_cons_zero, List.getD_cons_succ, I.at, atL, atO, atP, evp, evs, retV, ↓reduceIte, Nat.reduceEqDiff, reduceCtorEq, AS, e]
    · have e : isC (a : Int) n len = false := by unfold isC; exact decide_eq_false (by omega)
      simp (maxSteps := 1000000) (disch := omega) only [WS, List.getElem_cons_zero, List.getElem_cons_succ, Option.isNone_some, Option.isNone_none, List.getD_cons_zero, List.getD_cons_succ, I.at, atL, atO, atP, evp, evs, retV, ↓reduceIte, Nat.reduceEqDiff, reduceCtorEq, AS, e]
  · have e : isC a n len = false := by unfold isC; exact decide_eq_false (by omega)
    simp (maxSteps := 1000000) (disch := omega) only [WS, List.getElem_cons_zero, List.getElem_cons_succ, Option.isNone_some, Option.isNone_none, List.getD_cons_zero, List.getD_cons_succ, I.at, atL, atO, atP, evp, evs, retV, ↓reduceIte, Nat.reduceEqDiff, reduceCtorEq, AS, e]
/-- All elements. -/
structure Wls (w : World) (s : Value) (WL : List (El 16)) : Prop where
  sl : Sl w s WL
  ln : WL.length = 65536
  at' : ∀ i (h : i < WL.length), WL[i] = wel i
theorem Wls.up {w w' : World} {s : Value} {WL : List (El 16)} (h : Wls w s WL) (hB : RowKit.Below w.heap.size w w') : Wls w' s WL := ⟨h.sl.up hB, h.ln, h.at'⟩
theorem wls_ok : (wls (2 ^ 16)).length = 65536 ∧ ∀ i (h : i < (wls (2 ^ 16)).length), (wls (2 ^ 16))[i] = wel i := ⟨wls_len _, fun i h => wls_get h⟩
theorem culletref03_Elements_spec (w : World) : CallV Try.prog 73 [] w fun v w' => (∃ WL, Wls w' v WL) ∧ RowKit.Below w.heap.size w w' := by
  refine run_culletref03_Elements (by simp) ?_
  simp only [c_culletref03_Elements, WS, List.getElem_cons_zero, List.getElem_cons_succ, Option.isNone_some, Option.isNone_none, List.getD_cons_zero, List.getD_cons_succ, I.at, atL, atO, atP, evp, evs, retV, ↓reduceIte, Nat.reduceEqDiff, reduceCtorEq]
  have hok := wls_ok
  have hsp := culletref03_ElementsTo_spec w 16 (by omega)
  generalize wls (2 ^ 16) = WL at hok hsp
  refine X_call0 (hsp.mono ?_)
  rintro v w' ⟨o, hB⟩
  simp (maxSteps := 1000000) (disch := omega) only [WS, List.getElem_cons_zero, List.getElem_cons_succ, Option.isNone_some, Option.isNone_none, List.getD_cons_zero, List.getD_cons_succ, I.at, atL, atO, atP, evp, evs, retV, ↓reduceIte, Nat.reduceEqDiff, reduceCtorEq, AS]
  exact ⟨⟨WL, o.sl, hok.1, hok.2⟩, hB⟩
theorem culletref14_values_spec : ∀ (k : Nat) (w : World) (s sw : Value) (a : Nat) (l WL : List (El 16)), Sl w s l → l.length = 2 ^ k → k ≤ 16 → a % 2 ^ k = 0 → a + 2 ^ k ≤ 65536 → Wls w sw WL →
    CallV Try.prog 72 [s, .int .i64 (a : Int), sw] w fun v w' => ∃ m, Ow w.heap.size w' v m ∧ m.length = 2 ^ k ∧ (∀ i, i < 2 ^ k → (co m).c i = itF a k (co l).c i) ∧ RowKit.Below w.heap.size w w'
  | 0, w, s, sw, a, l, WL, h, hl, hk, ha, ha2, hw => by
    have hl1 : l.length = 1 := hl
    refine run_culletref14_values (by simp) ?_
    simp only [c_culletref14_values, WS, List.getElem_cons_zero, List.getElem_cons_succ, Option.isNone_some, Option.isNone_none, List.getD_cons_zero, List.getD_cons_succ, I.at, atL, atO, atP, evp, evs, retV, ↓reduceIte, Nat.reduceEqDiff, reduceCtorEq]
    simp (maxSteps := 1000000) (disch := omega) only [WS, List.getElem_cons_zero, List.getElem_cons_succ, Option.isNone_some, Option.isNone_none, List.getD_cons_zero, List.getD_cons_succ, I.at, atL, atO, atP, evp, evs, retV, ↓reduceIte, Nat.reduceEqDiff, reduceCtorEq, AS, h.Xlen, hl1, h.Xix0 (by omega), h.Xld (show 0 < l.length by omega), cell_e16, show decide (((1 : Nat) : Int) = 1) = true from rfl]
    refine X_bsl (zs := [l[0]]) (by rfl) (by rfl) fun p w1 o hB => ?_
    simp (maxSteps := 1000000) (disch := omega) only [WS, List.getElem_cons_zero, List.getElem_cons_succ, Option.isNone_some, Option.isNone_none, List.getD_cons_zero, List.getD_cons_succ, I.at, atL, atO, atP, evp, evs, retV, ↓reduceIte, Nat.reduceEqDiff, reduceCtorEq, AS]
    refine ⟨_, o, rfl, fun i hi => ?_, hB⟩
    obtain rfl : i = 0 := by have : (2 : Nat) ^ 0 = 1 := rfl; omega
    show (co [l[0]]).c 0 = (co l).c 0
    rw [co_get l (by omega)]; rfl
  | k + 1, w, s, sw, a, l, WL, h, hl, hk, ha, ha2, hw => by
    have h0 := Nat.two_pow_pos k
    have hp1 : 2 ^ (k + 1) = 2 * 2 ^ k := by rw [Nat.pow_succ, Nat.mul_comm]
    have hk15 : 2 ^ k ≤ 32768 := by have : 2 ^ k ≤ 2 ^ 15 := Nat.pow_le_pow_right (by omega) (by omega); omega
    have am : a % 2 ^ k = 0 := by rw [hp1] at ha; exact Nat.mod_eq_zero_of_dvd (Nat.dvd_trans (Nat.dvd_mul_left _ _) (Nat.dvd_of_mod_eq_zero ha))
    have am2 : (a + 2 ^ k) % 2 ^ k = 0 := by rw [Nat.add_mod_right]; exact am
    have ha3 : a + 2 * 2 ^ k ≤ 65536 := by omega
    have hl2 : l.length = 2 * 2 ^ k := by omega
    have hne : ((2 ^ k : Nat) : Int) ≠ 0 := by omega
    have IH := culletref14_values_spec k
    have hdiv : a / 2 ^ k < WL.length := by rw [hw.ln]; exact Nat.lt_of_le_of_lt (Nat.div_le_self _ _) (by omega)
    have hc := hw.at' _ hdiv
    have hh := itF_half (a := a) (k := k) (f := (co l).c) (lo := fun i => (co l).c i + wel (a / 2 ^ k) * (co l).c (2 ^ k + i)) (hi := fun i => (co l).c i + wel (a / 2 ^ k) * (co l).c (2 ^ k + i) + (co l).c (2 ^ k + i)) (fun i _ => rfl) (fun i _ => rfl)
    rw [hp1]
    generalize hH : 2 ^ k = H at *
    clear ha ha2 hl hp1
    have e2 : ((2 * H : Nat) : Int).tdiv 2 = (H : Int) := by
      rw [show (2 : Int) = ((2 : Nat) : Int) from rfl, tdiv_nat]; congr 1; omega
    have e3 : decide (((2 * H : Nat) : Int) = 1) = false := decide_eq_false (by omega)
    have dlt : a / H ≤ a := Nat.div_le_self _ _
    refine run_culletref14_values (by simp) ?_
    simp only [c_culletref14_values, WS, List.getElem_cons_zero, List.getElem_cons_succ, Option.isNone_some, Option.isNone_none, List.getD_cons_zero, List.getD_cons_succ, I.at, atL, atO, atP, evp, evs, retV, ↓reduceIte, Nat.reduceEqDiff, reduceCtorEq]
    simp (maxSteps := 1000000) (disch := omega) only [WS, List.getElem_cons_zero, List.getElem_cons_succ, Option.isNone_some, Option.isNone_none, List.getD_cons_zero, List.getD_cons_succ, I.at, atL, atO, atP, evp, evs, retV, ↓reduceIte, Nat.reduceEqDiff, reduceCtorEq, AS, h.Xlen, hl2, e3, X_quo, e2, w_nat, show ((2 : Int) ≠ 0) = True from eq_true (by decide), eq_true hne, tdiv_nat, hw.sl.Xix hdiv, hw.sl.Xld hdiv, hc, cell_e16]
    refine X_mks (x := (0 : El 16)) (by simp only [maxBytes]; omega) (by omega) fun p w1 op hB => ?_
    have B := hB
    clear hB
    have pb := op.blk
    simp (maxSteps := 1000000) (disch := omega) only [WS, List.getElem_cons_zero, List.getElem_cons_succ, Option.isNone_some, Option.isNone_none, List.getD_cons_zero, List.getD_cons_succ, I.at, atL, atO, atP, evp, evs, retV, ↓reduceIte, Nat.reduceEqDiff, reduceCtorEq, AS]
    refine X_mks (x := (0 : El 16)) (by simp only [maxBytes]; omega) (by omega) fun q w2 oq hB => ?_
    have qb : ∀ b, Fw.blk q = some b → w1.heap.size ≤ b := fun b hb => (oq.blk b hb).1
    have op := op.up hB
    have oq := oq.mono B.size
    have hpq : Fw.blk p ≠ Fw.blk q := by
      intro e
      obtain ⟨b, hb, hlt⟩ := op.sl.blk_lt (by intro e; have h := congrArg List.length e; simp at h; omega)
      have h1 := pb b hb
      have h2 := qb b (e ▸ hb)
      omega
    have B := B.trans (hB.mono B.size)
    clear hB pb qb
    simp (maxSteps := 1000000) (disch := omega) only [WS, List.getElem_cons_zero, List.getElem_cons_succ, Option.isNone_some, Option.isNone_none, List.getD_cons_zero, List.getD_cons_succ, I.at, atL, atO, atP, evp, evs, retV, ↓reduceIte, Nat.reduceEqDiff, reduceCtorEq, AS]
    refine loop_of (fun t w' => t 0 = s ∧ t 1 = .int .i64 (a : Int) ∧ t 2 = sw ∧ t 8 = .int .i64 (H : Int) ∧ t 9 = .int .u16 ((wel (a / H)).v.toNat : Int) ∧ t 10 = p ∧ t 11 = q ∧ RowKit.Below w.heap.size w w' ∧ ∃ (i : Nat) (P Q : List (El 16)), t 12 = .int .i64 (i : Int) ∧ i ≤ H ∧ Ow w.heap.size w' p P ∧ Ow w.heap.size w' q Q ∧ P.length = H ∧ Q.length = H ∧ (∀ j, j < i → (co P).c j = (co l).c j + wel (a / H) * (co l).c (H + j)) ∧ ∀ j, j < i → (co Q).c j = (co l).c j + wel (a / H) * (co l).c (H + j) + (co l).c (H + j))
      (fun t _ => H - (toI (t 12)).toNat) ⟨by simp only [WS, List.getElem_cons_zero, List.getElem_cons_succ, Option.isNone_some, Option.isNone_none, List.getD_cons_zero, List.getD_cons_succ, I.at, atL, atO, atP, evp, evs, retV, ↓reduceIte, Nat.reduceEqDiff, reduceCtorEq], by simp only [WS, List.getElem_cons_zero, List.getElem_cons_succ, Option.isNone_some, Option.isNone_none, List.getD_cons_zero, List.getD_cons_succ, I.at, atL, atO, atP, evp, evs, retV, ↓reduceIte, Nat.reduceEqDiff, reduceCtorEq], by simp only [WS, List.getElem_cons_zero, List.getElem_cons_succ, Option.isNone_some, Option.isNone_none, List.getD_cons_zero, List.getD_cons_succ, I.at, atL, atO, atP, evp, evs, retV, ↓reduceIte, Nat.reduceEqDiff, reduceCtorEq], by simp only [WS, List.getElem_cons_zero, List.getElem_cons_succ, Option.isNone_some, Option.isNone_none, List.getD_cons_zero, List.getD_cons_succ, I.at, atL, atO, atP, evp, evs, retV, ↓reduceIte, Nat.reduceEqDiff, reduceCtorEq], by simp only [WS, List.getElem_cons_zero, List.getElem_cons_succ, Option.isNone_some, Option.isNone_none, List.getD_cons_zero, List.getD_cons_succ, I.at, atL, atO, atP, evp, evs, retV, ↓reduceIte, Nat.reduceEqDiff, reduceCtorEq], by simp only [WS, List.getElem_cons_zero, List.getElem_cons_succ, Option.isNone_some, Option.isNone_none, List.getD_cons_zero, List.getD_cons_succ, I.at, atL, atO, atP, evp, evs, retV, ↓reduceIte, Nat.reduceEqDiff, reduceCtorEq], by simp only [WS, List.getElem_cons_zero, List.getElem_cons_succ, Option.isNone_some, Option.isNone_none, List.getD_cons_zero, List.getD_cons_succ, I.at, atL, atO, atP, evp, evs, retV, ↓reduceIte, Nat.reduceEqDiff, reduceCtorEq], B, 0, _, _, rfl, by omega, op, oq, by simp, by simp, fun j hj => by omega, fun j hj => by omega⟩ ?_
    clear B op oq
    rintro t w3 ⟨t0, t1, t2, t8, t9, t10, t11, B3, i, P, Q, t12, hi, op3, oq3, lP, lQ, hP, hQ⟩
    have hs := h.up B3
    by_cases hlt : i < H
    · have i1 : i < l.length := by omega
      have i2 : H + i < l.length := by omega
      have iP : i < P.length := by omega
      have iQ : i < Q.length := by omega
      simp (maxSteps := 1000000) (disch := omega) only [WS, List.getElem_cons_zero, List.getElem_cons_succ, Option.isNone_some, Option.isNone_none, List.getD_cons_zero, List.getD_cons_succ, I.at, atL, atO, atP, evp, evs, retV, ↓reduceIte, Nat.reduceEqDiff, reduceCtorEq, AS, t0, t1, t2, t8, t9, t10, t11, t12, hs.Xix i2, hs.Xld i2, cell_e16]
      refine X_call0 ((culletref03_Mul_spec w3 (wel (a / H)) l[H + i]).mono ?_)
      rintro _ w4 ⟨rfl, rfl⟩
      simp (maxSteps := 1000000) (disch := omega) only [WS, List.getElem_cons_zero, List.getElem_cons_succ, Option.isNone_some, Option.isNone_none, List.getD_cons_zero, List.getD_cons_succ, I.at, atL, atO, atP, evp, evs, retV, ↓reduceIte, Nat.reduceEqDiff, reduceCtorEq, AS, t0, t1, t2, t8, t9, t10, t11, t12, hs.Xix i1, hs.Xld i1, cell_e16, xor16, op3.sl.Xix iP]
      refine op3.Xst iP (l[i] + wel (a / H) * l[H + i]) fun w5 op5 hg => ?_
      have oq5 := oq3.grown hg (fun e => hpq e.symm)
      have B5 := B3.grown hg B3.size fun b hb => (op3.blk b hb).1
      simp (maxSteps := 1000000) (disch := omega) only [WS, List.getElem_cons_zero, List.getElem_cons_succ, Option.isNone_some, Option.isNone_none, List.getD_cons_zero, List.getD_cons_succ, I.at, atL, atO, atP, evp, evs, retV, ↓reduceIte, Nat.reduceEqDiff, reduceCtorEq, AS, t0, t1, t2, t8, t9, t10, t11, t12]
      refine WP_dops ?_
      have hs5 := (h.up B5).drew
      have oq6 := oq5.drew
      simp (maxSteps := 1000000) (disch := omega) only [ES, List.mem_cons, List.not_mem_nil, implies_true, forall_const, WS, List.getElem_cons_zero, List.getElem_cons_succ, Option.isNone_some, Option.isNone_none, List.getD_cons_zero, List.getD_cons_succ, I.at, atL, atO, atP, evp, evs, retV, ↓reduceIte, Nat.reduceEqDiff, reduceCtorEq, AS, t0, t1, t2, t8, t9, t10, t11, t12, hs5.Eix i1, hs5.Eld i1, hs5.Eix i2, hs5.Eld i2, cell_e16, xor16, oq6.sl.Eix iQ]
      refine Ow.Est oq6 iQ (l[i] + wel (a / H) * l[H + i] + l[H + i]) fun w7 oq7 hg7 => ?_
      have hg7 := grown_of_drew hg7
      have op7 := op5.grown hg7 hpq
      have B7 := B5.grown hg7 B5.size fun b hb => (oq3.blk b hb).1
      simp (maxSteps := 1000000) (disch := omega) only [ES, List.mem_cons, List.not_mem_nil, implies_true, forall_const, WS, List.getElem_cons_zero, List.getElem_cons_succ, Option.isNone_some, Option.isNone_none, List.getD_cons_zero, List.getD_cons_succ, I.at, atL, atO, atP, evp, evs, retV, ↓reduceIte, Nat.reduceEqDiff, reduceCtorEq, AS, t0, t1, t2, t8, t9, t10, t11, t12]
      refine ⟨⟨B7, i + 1, _, _, rfl, by omega, op7, oq7, by rw [List.length_set]; exact lP, by rw [List.length_set]; exact lQ, fun j hj => ?_, fun j hj => ?_⟩, by omega⟩
      · rw [co_set _ iP]
        by_cases hji : j = i
        · subst hji; rw [if_pos rfl, co_get l i1, co_get l i2]
        · rw [if_neg hji]; exact hP j (by omega)
      · rw [co_set _ iQ]
        by_cases hji : j = i
        · subst hji; rw [if_pos rfl, co_get l i1, co_get l i2]
        · rw [if_neg hji]; exact hQ j (by omega)
    · obtain rfl : i = H := by omega
      simp (maxSteps := 1000000) (disch := omega) only [WS, List.getElem_cons_zero, List.getElem_cons_succ, Option.isNone_some, Option.isNone_none, List.getD_cons_zero, List.getD_cons_succ, I.at, atL, atO, atP, evp, evs, retV, ↓reduceIte, Nat.reduceEqDiff, reduceCtorEq, AS, t0, t1, t2, t8, t9, t10, t11, t12]
      refine X_call0 ((IH w3 p sw a P WL op3.sl lP (by omega) am (by omega) (hw.up B3)).mono ?_)
      rintro v1 w4 ⟨m1, o1, l1, c1, hB⟩
      have oq3 := oq3.up hB
      have B4 := B3.trans (hB.mono B3.size)
      simp (maxSteps := 1000000) (disch := omega) only [WS, List.getElem_cons_zero, List.getElem_cons_succ, Option.isNone_some, Option.isNone_none, List.getD_cons_zero, List.getD_cons_succ, I.at, atL, atO, atP, evp, evs, retV, ↓reduceIte, Nat.reduceEqDiff, reduceCtorEq, AS, t0, t1, t2, t8, t9, t10, t11, t12]
      refine X_call0 ((IH w4 q sw (a + i) Q WL oq3.sl lQ (by omega) am2 (by omega) (hw.up B4)).mono ?_)
      rintro v2 w5 ⟨m2, o2, l2, c2, hB2⟩
      have o1 := (o1.mono B3.size).up hB2
      have B5 := B4.trans (hB2.mono B4.size)
      simp (maxSteps := 1000000) (disch := omega) only [WS, List.getElem_cons_zero, List.getElem_cons_succ, Option.isNone_some, Option.isNone_none, List.getD_cons_zero, List.getD_cons_succ, I.at, atL, atO, atP, evp, evs, retV, ↓reduceIte, Nat.reduceEqDiff, reduceCtorEq, AS, t0, t1, t2, t8, t9, t10, t11, t12]
      refine o1.Xapp o2.sl B5.size (by simp only [maxBytes]; omega) (by omega) fun v w6 ov hg hn => ?_
      have B6 := B5.grown hg B5.size fun b hb => (o1.blk b hb).1
      simp (maxSteps := 1000000) (disch := omega) only [WS, List.getElem_cons_zero, List.getElem_cons_succ, Option.isNone_some, Option.isNone_none, List.getD_cons_zero, List.getD_cons_succ, I.at, atL, atO, atP, evp, evs, retV, ↓reduceIte, Nat.reduceEqDiff, reduceCtorEq, AS]
      refine ⟨_, ov, by rw [List.length_append]; omega, fun j hj => ?_, B6⟩
      rw [co_app, l1]
      by_cases hjH : j < i
      · rw [if_pos hjH, c1 j hjH, (hh j hjH).1]
        exact itF_loc (n := i) (by rw [hH]; exact Nat.mod_self _) (fun u hu => hP u hu) j hjH
      · rw [if_neg hjH, c2 (j - i) (by omega)]
        have h4 := (hh (j - i) (by omega)).2
        rw [show i + (j - i) = j by omega] at h4
        rw [h4]
        exact itF_loc (n := i) (by rw [hH]; exact Nat.mod_self _) (fun u hu => hQ u hu) (j - i) (by omega)
end Go.Proofs.Ytpmfeaajpjjfiaa.Fw

set_option linter.unusedVariables false
set_option linter.unusedSimpArgs false
set_option maxRecDepth 100000
set_option maxHeartbeats 1000000
namespace Go.Proofs.Ytpmfeaajpjjfiaa.Fw
open Go Go.Fw Go.Proofs
attribute [local irreducible] stepI
def c_culletref14_Forward : C := .seq (.ops [⟨0, (some 4), none, .mov (.c (.slice none 0 0)), []⟩, ⟨1, (some 5), none, .mov (.c (.int .i64 0)), []⟩]) (.seq (.ops [⟨0, (some 6), none, .mov (.c (.slice none 0 0)), []⟩]) (.seq (.seq (.ops [⟨0, (some 7), none, .mov (.t 0), []⟩, ⟨1, (some 8), none, .len (.t 7), []⟩, ⟨2, (some 9), none, .call (.c (.func (.func 70) #[] #[])) [.t 8], []⟩, ⟨3, (some 10), none, .un .not (.t 9), []⟩]) (.ite (.t 10) (.seq (.ops [⟨0, (some 11), none, .mov (.t 6), []⟩, ⟨1, (some 4), none, .mov (.t 11), []⟩, ⟨2, (some 5), none, .mov (.c (.int .i64 130)), []⟩]) .ret) .skip)) (.seq (.seq (.ops [⟨0, (some 12), none, .mov (.t 1), []⟩, ⟨1, (some 13), none, .mov (.t 0), []⟩, ⟨2, (some 14), none, .len (.t 13), []⟩, ⟨3, (some 15), none, .mov (.t 0), []⟩, ⟨4, (some 16), none, .len (.t 15), []⟩, ⟨5, (some 17), none, .call (.c (.func (.func 71) #[] #[])) [.t 12, .t 14, .t 16], []⟩, ⟨6, (some 18), none, .un .not (.t 17), []⟩]) (.ite (.t 18) (.seq (.ops [⟨0, (some 19), none, .mov (.t 6), []⟩, ⟨1, (some 4), none, .mov (.t 19), []⟩, ⟨2, (some 5), none, .mov (.c (.int .i64 140)), []⟩]) .ret) .skip)) (.seq (.ops [⟨0, (some 20), none, .mov (.t 0), []⟩, ⟨1, (some 21), none, .mov (.t 1), []⟩, ⟨2, (some 22), none, .call (.c (.func (.func 73) #[] #[])) [], []⟩, ⟨3, (some 23), none, .call (.c (.func (.func 72) #[] #[])) [.t 20, .t 21, .t 22], []⟩, ⟨4, (some 4), none, .mov (.t 23), []⟩, ⟨5, (some 5), none, .mov (.c (.int .i64 0)), []⟩]) .ret))))
attribute [irreducible] c_culletref14_Forward
theorem run_culletref14_Forward {args : List Value} {w : World} {K : Value → World → Prop} (hn : args.length ≤ 24) (h : WP Try.prog c_culletref14_Forward (endQ [.t 4, .t 5] K) (initT args) w) : CallV Try.prog 55 args w K :=
  call_of follows Try.func55 (by kernel_rfl) (by kernel_rfl) hn h
def c_culletref14_Inverse : C := .seq (.ops [⟨0, (some 4), none, .mov (.c (.slice none 0 0)), []⟩, ⟨1, (some 5), none, .mov (.c (.int .i64 0)), []⟩]) (.seq (.ops [⟨0, (some 6), none, .mov (.c (.slice none 0 0)), []⟩]) (.seq (.seq (.ops [⟨0, (some 7), none, .mov (.t 0), []⟩, ⟨1, (some 8), none, .len (.t 7), []⟩, ⟨2, (some 9), none, .call (.c (.func (.func 70) #[] #[])) [.t 8], []⟩, ⟨3, (some 10), none, .un .not (.t 9), []⟩]) (.ite (.t 10) (.seq (.ops [⟨0, (some 11), none, .mov (.t 6), []⟩, ⟨1, (some 4), none, .mov (.t 11), []⟩, ⟨2, (some 5), none, .mov (.c (.int .i64 130)), []⟩]) .ret) .skip)) (.seq (.seq (.ops [⟨0, (some 12), none, .mov (.t 1), []⟩, ⟨1, (some 13), none, .mov (.t 0), []⟩, ⟨2, (some 14), none, .len (.t 13), []⟩, ⟨3, (some 15), none, .mov (.t 0), []⟩, ⟨4, (some 16), none, .len (.t 15), []⟩, ⟨5, (some 17), none, .call (.c (.func (.func 71) #[] #[])) [.t 12, .t 14, .t 16], []⟩, ⟨6, (some 18), none, .un .not (.t 17), []⟩]) (.ite (.t 18) (.seq (.ops [⟨0, (some 19), none, .mov (.t 6), []⟩, ⟨1, (some 4), none, .mov (.t 19), []⟩, ⟨2, (some 5), none, .mov (.c (.int .i64 140)), []⟩]) .ret) .skip)) (.seq (.ops [⟨0, (some 20), none, .mov (.t 0), []⟩, ⟨1, (some 21), none, .mov (.t 1), []⟩, ⟨2, (some 22), none, .call (.c (.func (.func 73) #[] #[])) [], []⟩, ⟨3, (some 23), none, .call (.c (.func (.func 74) #[] #[])) [.t 20, .t 21, .t 22], []⟩, ⟨4, (some 4), none, .mov (.t 23), []⟩, ⟨5, (some 5), none, .mov (.c (.int .i64 0)), []⟩]) .ret))))
attribute [irreducible] c_culletref14_Inverse
theorem run_culletref14_Inverse {args : List Value} {w : World} {K : Value → World → Prop} (hn : args.length ≤ 24) (h : WP Try.prog c_culletref14_Inverse (endQ [.t 4, .t 5] K) (initT args) w) : CallV Try.prog 56 args w K :=
  call_of follows Try.func56 (by kernel_rfl) (by kernel_rfl) hn h
def c_culletref14_Extend : C := .seq (.ops [⟨0, (some 6), none, .mov (.c (.slice none 0 0)), []⟩, ⟨1, (some 7), none, .mov (.c (.int .i64 0)), []⟩]) (.seq (.ops [⟨0, (some 8), none, .mov (.c (.slice none 0 0)), []⟩]) (.seq (.seq (.ops [⟨0, (some 10), none, .mov (.t 0), []⟩, ⟨1, (some 11), none, .len (.t 10), []⟩, ⟨2, (some 12), none, .call (.c (.func (.func 70) #[] #[])) [.t 11], []⟩, ⟨3, (some 13), none, .un .not (.t 12), []⟩]) (.ite (.t 13) (.seq (.ops [⟨0, (some 14), none, .mov (.t 8), []⟩, ⟨1, (some 6), none, .mov (.t 14), []⟩, ⟨2, (some 7), none, .mov (.c (.int .i64 130)), []⟩]) .ret) .skip)) (.seq (.seq (.ops [⟨0, (some 15), none, .mov (.t 1), []⟩, ⟨1, (some 16), none, .mov (.t 0), []⟩, ⟨2, (some 17), none, .len (.t 16), []⟩, ⟨3, (some 18), none, .mov (.t 0), []⟩, ⟨4, (some 19), none, .len (.t 18), []⟩, ⟨5, (some 20), none, .call (.c (.func (.func 71) #[] #[])) [.t 15, .t 17, .t 19], []⟩, ⟨6, (some 21), none, .un .not (.t 20), []⟩, ⟨7, (some 22), none, .mov (.t 21), []⟩, ⟨8, (some 23), (some (22, false)), .mov (.t 2), []⟩, ⟨9, (some 24), (some (22, false)), .mov (.t 0), []⟩, ⟨10, (some 25), (some (22, false)), .len (.t 24), []⟩, ⟨11, (some 26), (some (22, false)), .mov (.t 0), []⟩, ⟨12, (some 27), (some (22, false)), .len (.t 26), []⟩, ⟨13, (some 28), (some (22, false)), .call (.c (.func (.func 71) #[] #[])) [.t 23, .t 25, .t 27], []⟩, ⟨14, (some 29), (some (22, false)), .un .not (.t 28), []⟩, ⟨15, (some 30), none, .pick (.t 22) (.c (.bool true)) (.t 29), []⟩]) (.ite (.t 30) (.seq (.ops [⟨0, (some 31), none, .mov (.t 8), []⟩, ⟨1, (some 6), none, .mov (.t 31), []⟩, ⟨2, (some 7), none, .mov (.c (.int .i64 140)), []⟩]) .ret) .skip)) (.seq (.ops [⟨0, (some 32), none, .call (.c (.func (.func 73) #[] #[])) [], []⟩, ⟨1, (some 9), none, .mov (.t 32), []⟩]) (.seq (.ops [⟨0, (some 33), none, .mov (.t 0), []⟩, ⟨1, (some 34), none, .mov (.t 1), []⟩, ⟨2, (some 35), none, .mov (.t 9), []⟩, ⟨3, (some 36), none, .call (.c (.func (.func 74) #[] #[])) [.t 33, .t 34, .t 35], []⟩, ⟨4, (some 37), none, .mov (.t 2), []⟩, ⟨5, (some 38), none, .mov (.t 9), []⟩, ⟨6, (some 39), none, .call (.c (.func (.func 72) #[] #[])) [.t 36, .t 37, .t 38], []⟩, ⟨7, (some 6), none, .mov (.t 39), []⟩, ⟨8, (some 7), none, .mov (.c (.int .i64 0)), []⟩]) .ret)))))
attribute [irreducible] c_culletref14_Extend
theorem run_culletref14_Extend {args : List Value} {w : World} {K : Value → World → Prop} (hn : args.length ≤ 40) (h : WP Try.prog c_culletref14_Extend (endQ [.t 6, .t 7] K) (initT args) w) : CallV Try.prog 58 args w K :=
  call_of follows Try.func58 (by kernel_rfl) (by kernel_rfl) hn h
def c_culletref14_Fold : C := .seq (.ops [⟨0, (some 6), none, .mov (.c (.slice none 0 0)), []⟩, ⟨1, (some 7), none, .mov (.c (.int .i64 0)), []⟩]) (.seq (.ops [⟨0, (some 8), none, .mov (.c (.slice none 0 0)), []⟩]) (.seq (.seq (.ops [⟨0, (some 14), none, .mov (.t 1), []⟩, ⟨1, (some 15), none, .call (.c (.func (.func 70) #[] #[])) [.t 14], []⟩, ⟨2, (some 16), none, .un .not (.t 15), []⟩]) (.ite (.t 16) (.seq (.ops [⟨0, (some 17), none, .mov (.t 8), []⟩, ⟨1, (some 6), none, .mov (.t 17), []⟩, ⟨2, (some 7), none, .mov (.c (.int .i64 130)), []⟩]) .ret) .skip)) (.seq (.seq (.ops [⟨0, (some 18), none, .mov (.t 0), []⟩, ⟨1, (some 19), none, .len (.t 18), []⟩, ⟨2, (some 20), none, .bin .eql (.t 19) (.c (.int .i64 0)), []⟩, ⟨3, (some 21), none, .mov (.t 20), []⟩, ⟨4, (some 22), (some (21, false)), .mov (.t 0), []⟩, ⟨5, (some 23), (some (21, false)), .len (.t 22), []⟩, ⟨6, (some 24), (some (21, false)), .mov (.t 1), []⟩, ⟨7, (some 25), (some (21, false)), .bin .rem (.t 23) (.t 24), []⟩, ⟨8, (some 26), (some (21, false)), .bin .neq (.t 25) (.c (.int .i64 0)), []⟩, ⟨9, (some 27), none, .pick (.t 21) (.c (.bool true)) (.t 26), []⟩]) (.ite (.t 27) (.seq (.ops [⟨0, (some 28), none, .mov (.t 8), []⟩, ⟨1, (some 6), none, .mov (.t 28), []⟩, ⟨2, (some 7), none, .mov (.c (.int .i64 6)), []⟩]) .ret) .skip)) (.seq (.seq (.ops [⟨0, (some 29), none, .mov (.t 2), []⟩, ⟨1, (some 30), none, .mov (.t 1), []⟩, ⟨2, (some 31), none, .mov (.t 0), []⟩, ⟨3, (some 32), none, .len (.t 31), []⟩, ⟨4, (some 33), none, .call (.c (.func (.func 71) #[] #[])) [.t 29, .t 30, .t 32], []⟩, ⟨5, (some 34), none, .un .not (.t 33), []⟩]) (.ite (.t 34) (.seq (.ops [⟨0, (some 35), none, .mov (.t 8), []⟩, ⟨1, (some 6), none, .mov (.t 35), []⟩, ⟨2, (some 7), none, .mov (.c (.int .i64 140)), []⟩]) .ret) .skip)) (.seq (.ops [⟨0, (some 36), none, .call (.c (.func (.func 73) #[] #[])) [], []⟩, ⟨1, (some 9), none, .mov (.t 36), []⟩]) (.seq (.ops [⟨0, (some 37), none, .mov (.t 1), []⟩, ⟨1, (some 38), none, .mks 31 2 [.int .u16 0] (.t 37) (.t 37), []⟩, ⟨2, (some 10), none, .mov (.t 38), []⟩]) (.seq (.seq (.ops [⟨0, (some 11), none, .mov (.c (.int .i64 0)), []⟩]) (.block 0 (.loop (.seq (.seq (.ops [⟨0, (some 39), none, .mov (.t 11), []⟩, ⟨1, (some 40), none, .mov (.t 0), []⟩, ⟨2, (some 41), none, .len (.t 40), []⟩, ⟨3, (some 42), none, .bin .lss (.t 39) (.t 41), []⟩]) (.ite (.t 42) .skip (.exit 0))) (.seq (.block 1 (.seq (.ops [⟨0, (some 46), none, .mov (.t 0), []⟩, ⟨1, (some 47), none, .mov (.t 11), []⟩, ⟨2, (some 48), none, .mov (.t 11), []⟩, ⟨3, (some 49), none, .mov (.t 1), []⟩, ⟨4, (some 50), none, .bin .add (.t 48) (.t 49), []⟩, ⟨5, (some 51), none, .slc 1 (.t 46) (some (.t 47)) (some (.t 50)) none, []⟩, ⟨6, (some 52), none, .mov (.t 2), []⟩, ⟨7, (some 53), none, .mov (.t 11), []⟩, ⟨8, (some 54), none, .bin .add (.t 52) (.t 53), []⟩, ⟨9, (some 55), none, .mov (.t 9), []⟩, ⟨10, (some 56), none, .call (.c (.func (.func 74) #[] #[])) [.t 51, .t 54, .t 55], []⟩, ⟨11, (some 12), none, .mov (.t 56), []⟩]) (.seq (.ops [⟨0, (some 13), none, .mov (.c (.int .i64 0)), []⟩]) (.block 2 (.loop (.seq (.seq (.ops [⟨0, (some 57), none, .mov (.t 13), []⟩, ⟨1, (some 58), none, .mov (.t 1), []⟩, ⟨2, (some 59), none, .bin .lss (.t 57) (.t 58), []⟩]) (.ite (.t 59) .skip (.exit 2))) (.seq (.block 3 (.dops [⟨0, (some 62), none, .mov (.t 10), []⟩, ⟨1, (some 63), none, .mov (.t 13), []⟩, ⟨2, (some 64), none, .mov (.t 10), []⟩, ⟨3, (some 65), none, .mov (.t 13), []⟩, ⟨4, (some 66), none, .ixs 1 (.t 64) (.t 65), []⟩, ⟨5, (some 67), none, .ld (.t 66), []⟩, ⟨6, (some 68), none, .mov (.t 12), []⟩, ⟨7, (some 69), none, .mov (.t 13), []⟩, ⟨8, (some 70), none, .ixs 1 (.t 68) (.t 69), []⟩, ⟨9, (some 71), none, .ld (.t 70), []⟩, ⟨10, (some 72), none, .bin .xor (.t 67) (.t 71), []⟩, ⟨11, (some 73), none, .ixs 1 (.t 62) (.t 63), []⟩, ⟨12, none, none, .st (.t 73) (.t 72), []⟩])) (.ops [⟨0, (some 60), none, .mov (.t 13), []⟩, ⟨1, (some 61), none, .bin .add (.t 60) (.c (.int .i64 1)), []⟩, ⟨2, (some 13), none, .mov (.t 61), []⟩])))))))) (.ops [⟨0, (some 43), none, .mov (.t 11), []⟩, ⟨1, (some 44), none, .mov (.t 1), []⟩, ⟨2, (some 45), none, .bin .add (.t 43) (.t 44), []⟩, ⟨3, (some 11), none, .mov (.t 45), []⟩])))))) (.seq (.ops [⟨0, (some 74), none, .mov (.t 10), []⟩, ⟨1, (some 6), none, .mov (.t 74), []⟩, ⟨2, (some 7), none, .mov (.c (.int .i64 0)), []⟩]) .ret))))))))
attribute [irreducible] c_culletref14_Fold
theorem run_culletref14_Fold {args : List Value} {w : World} {K : Value → World → Prop} (hn : args.length ≤ 75) (h : WP Try.prog c_culletref14_Fold (endQ [.t 6, .t 7] K) (initT args) w) : CallV Try.prog 59 args w K :=
  call_of follows Try.func59 (by kernel_rfl) (by kernel_rfl) hn h
def c_culletref14_coefficients : C := .seq (.ops [⟨0, (some 6), none, .mov (.c (.slice none 0 0)), []⟩]) (.seq (.ops [⟨0, (some 14), none, .mov (.t 0), []⟩, ⟨1, (some 15), none, .len (.t 14), []⟩, ⟨2, (some 7), none, .mov (.t 15), []⟩]) (.seq (.seq (.ops [⟨0, (some 16), none, .mov (.t 7), []⟩, ⟨1, (some 17), none, .bin .eql (.t 16) (.c (.int .i64 1)), []⟩]) (.ite (.t 17) (.seq (.ops [⟨0, (some 18), none, .mov (.t 0), []⟩, ⟨1, (some 19), none, .ixs 1 (.t 18) (.c (.int .i64 0)), []⟩, ⟨2, (some 20), none, .ld (.t 19), []⟩, ⟨3, (some 21), none, .bsl 31 1 [.int .u16 0] [(0, (1, .t 20))], []⟩, ⟨4, (some 6), none, .mov (.t 21), []⟩]) .ret) .skip)) (.seq (.ops [⟨0, (some 22), none, .mov (.t 7), []⟩, ⟨1, (some 23), none, .bin .quo (.t 22) (.c (.int .i64 2)), []⟩, ⟨2, (some 8), none, .mov (.t 23), []⟩]) (.seq (.ops [⟨0, (some 24), none, .mov (.t 2), []⟩, ⟨1, (some 25), none, .mov (.t 1), []⟩, ⟨2, (some 26), none, .mov (.t 8), []⟩, ⟨3, (some 27), none, .bin .quo (.t 25) (.t 26), []⟩, ⟨4, (some 28), none, .ixs 1 (.t 24) (.t 27), []⟩, ⟨5, (some 29), none, .ld (.t 28), []⟩, ⟨6, (some 9), none, .mov (.t 29), []⟩]) (.seq (.ops [⟨0, (some 30), none, .mov (.t 0), []⟩, ⟨1, (some 31), none, .mov (.t 8), []⟩, ⟨2, (some 32), none, .slc 1 (.t 30) none (some (.t 31)) none, []⟩, ⟨3, (some 33), none, .mov (.t 1), []⟩, ⟨4, (some 34), none, .mov (.t 2), []⟩, ⟨5, (some 35), none, .call (.c (.func (.func 74) #[] #[])) [.t 32, .t 33, .t 34], []⟩, ⟨6, (some 10), none, .mov (.t 35), []⟩]) (.seq (.ops [⟨0, (some 36), none, .mov (.t 0), []⟩, ⟨1, (some 37), none, .mov (.t 8), []⟩, ⟨2, (some 38), none, .slc 1 (.t 36) (some (.t 37)) none none, []⟩, ⟨3, (some 39), none, .mov (.t 1), []⟩, ⟨4, (some 40), none, .mov (.t 8), []⟩, ⟨5, (some 41), none, .bin .add (.t 39) (.t 40), []⟩, ⟨6, (some 42), none, .mov (.t 2), []⟩, ⟨7, (some 43), none, .call (.c (.func (.func 74) #[] #[])) [.t 38, .t 41, .t 42], []⟩, ⟨8, (some 11), none, .mov (.t 43), []⟩]) (.seq (.ops [⟨0, (some 44), none, .mov (.t 7), []⟩, ⟨1, (some 45), none, .mks 31 2 [.int .u16 0] (.t 44) (.t 44), []⟩, ⟨2, (some 12), none, .mov (.t 45), []⟩]) (.seq (.seq (.ops [⟨0, (some 13), none, .mov (.c (.int .i64 0)), []⟩]) (.block 0 (.loop (.seq (.seq (.ops [⟨0, (some 46), none, .mov (.t 13), []⟩, ⟨1, (some 47), none, .mov (.t 8), []⟩, ⟨2, (some 48), none, .bin .lss (.t 46) (.t 47), []⟩]) (.ite (.t 48) .skip (.exit 0))) (.seq (.block 1 (.seq (.dops [⟨0, (some 51), none, .mov (.t 12), []⟩, ⟨1, (some 52), none, .mov (.t 8), []⟩, ⟨2, (some 53), none, .mov (.t 13), []⟩, ⟨3, (some 54), none, .bin .add (.t 52) (.t 53), []⟩, ⟨4, (some 55), none, .mov (.t 10), []⟩, ⟨5, (some 56), none, .mov (.t 13), []⟩, ⟨6, (some 57), none, .ixs 1 (.t 55) (.t 56), []⟩, ⟨7, (some 58), none, .ld (.t 57), []⟩, ⟨8, (some 59), none, .mov (.t 11), []⟩, ⟨9, (some 60), none, .mov (.t 13), []⟩, ⟨10, (some 61), none, .ixs 1 (.t 59) (.t 60), []⟩, ⟨11, (some 62), none, .ld (.t 61), []⟩, ⟨12, (some 63), none, .bin .xor (.t 58) (.t 62), []⟩, ⟨13, (some 64), none, .ixs 1 (.t 51) (.t 54), []⟩, ⟨14, none, none, .st (.t 64) (.t 63), []⟩]) (.dops [⟨0, (some 65), none, .mov (.t 12), []⟩, ⟨1, (some 66), none, .mov (.t 13), []⟩, ⟨2, (some 67), none, .mov (.t 10), []⟩, ⟨3, (some 68), none, .mov (.t 13), []⟩, ⟨4, (some 69), none, .ixs 1 (.t 67) (.t 68), []⟩, ⟨5, (some 70), none, .ld (.t 69), []⟩, ⟨6, (some 71), none, .mov (.t 9), []⟩, ⟨7, (some 72), none, .mov (.t 12), []⟩, ⟨8, (some 73), none, .mov (.t 8), []⟩, ⟨9, (some 74), none, .mov (.t 13), []⟩, ⟨10, (some 75), none, .bin .add (.t 73) (.t 74), []⟩, ⟨11, (some 76), none, .ixs 1 (.t 72) (.t 75), []⟩, ⟨12, (some 77), none, .ld (.t 76), []⟩, ⟨13, (some 78), none, .call (.c (.func (.func 80) #[] #[])) [.t 71, .t 77], [5]⟩, ⟨14, (some 79), none, .bin .xor (.t 70) (.t 78), []⟩, ⟨15, (some 80), none, .ixs 1 (.t 65) (.t 66), []⟩, ⟨16, none, none, .st (.t 80) (.t 79), []⟩]))) (.ops [⟨0, (some 49), none, .mov (.t 13), []⟩, ⟨1, (some 50), none, .bin .add (.t 49) (.c (.int .i64 1)), []⟩, ⟨2, (some 13), none, .mov (.t 50), []⟩])))))) (.seq (.ops [⟨0, (some 81), none, .mov (.t 12), []⟩, ⟨1, (some 6), none, .mov (.t 81), []⟩]) .ret)))))))))
attribute [irreducible] c_culletref14_coefficients
theorem run_culletref14_coefficients {args : List Value} {w : World} {K : Value → World → Prop} (hn : args.length ≤ 82) (h : WP Try.prog c_culletref14_coefficients (endQ [.t 6] K) (initT args) w) : CallV Try.prog 74 args w K :=
  call_of follows Try.func74 (by kernel_rfl) (by kernel_rfl) hn h
end Go.Proofs.Ytpmfeaajpjjfiaa.Fw
namespace Go.Proofs.Ytpmfeaajpjjfiaa.Fw
open Go Go.Fw
theorem culletref14_coefficients_spec : ∀ (k : Nat) (w : World) (s sw : Value) (a : Nat) (l WL : List (El 16)), Sl w s l → l.length = 2 ^ k → k ≤ 16 → a % 2 ^ k = 0 → a + 2 ^ k ≤ 65536 → Wls w sw WL →
    CallV Try.prog 74 [s, .int .i64 (a : Int), sw] w fun v w' => ∃ m, Ow w.heap.size w' v m ∧ m.length = 2 ^ k ∧ (∀ i, i < 2 ^ k → (co m).c i = itI a k (co l).c i) ∧ RowKit.Below w.heap.size w w'
  | 0, w, s, sw, a, l, WL, h, hl, hk, ha, ha2, hw => by
    have hl1 : l.length = 1 := hl
    refine run_culletref14_coefficients (by simp) ?_
    simp only [c_culletref14_coefficients, WS, List.getElem_cons_zero, List.getElem_cons_succ, Option.isNone_some, Option.isNone_none, List.getD_cons_zero, List.getD_cons_succ, I.at, atL, atO, atP, evp, evs, retV, ↓reduceIte, Nat.reduceEqDiff, reduceCtorEq]
    simp (maxSteps := 1000000) (disch := omega) only [WS, List.getElem_cons_zero, List.getElem_cons_succ, Option.isNone_some, Option.isNone_none, List.getD_cons_zero, List.getD_cons_succ, I.at, atL, atO, atP, evp, evs, retV, ↓reduceIte, Nat.reduceEqDiff, reduceCtorEq, AS, h.Xlen, hl1, h.Xix0 (by omega), h.Xld (show 0 < l.length by omega), cell_e16, show decide (((1 : Nat) : Int) = 1) = true from rfl]
    refine X_bsl (zs := [l[0]]) (by rfl) (by rfl) fun p w1 o hB => ?_
    simp (maxSteps := 1000000) (disch := omega) only [WS, List.getElem_cons_zero, List.getElem_cons_succ, Option.isNone_some, Option.isNone_none, List.getD_cons_zero, List.getD_cons_succ, I.at, atL, atO, atP, evp, evs, retV, ↓reduceIte, Nat.reduceEqDiff, reduceCtorEq, AS]
    refine ⟨_, o, rfl, fun i hi => ?_, hB⟩
    obtain rfl : i = 0 := by have : (2 : Nat) ^ 0 = 1 := rfl; omega
    show (co [l[0]]).c 0 = (co l).c 0
    rw [co_get l (by omega)]; rfl
  | k + 1, w, s, sw, a, l, WL, h, hl, hk, ha, ha2, hw => by
    have h0 := Nat.two_pow_pos k
    have hp1 : 2 ^ (k + 1) = 2 * 2 ^ k := by rw [Nat.pow_succ, Nat.mul_comm]
    have hk15 : 2 ^ k ≤ 32768 := by have : 2 ^ k ≤ 2 ^ 15 := Nat.pow_le_pow_right (by omega) (by omega); omega
    have am : a % 2 ^ k = 0 := by rw [hp1] at ha; exact Nat.mod_eq_zero_of_dvd (Nat.dvd_trans (Nat.dvd_mul_left _ _) (Nat.dvd_of_mod_eq_zero ha))
    have am2 : (a + 2 ^ k) % 2 ^ k = 0 := by rw [Nat.add_mod_right]; exact am
    have ha3 : a + 2 * 2 ^ k ≤ 65536 := by omega
    have hl2 : l.length = 2 * 2 ^ k := by omega
    have hne : ((2 ^ k : Nat) : Int) ≠ 0 := by omega
    have IH := culletref14_coefficients_spec k
    have hdiv : a / 2 ^ k < WL.length := by rw [hw.ln]; exact Nat.lt_of_le_of_lt (Nat.div_le_self _ _) (by omega)
    have hc := hw.at' _ hdiv
    have hh := itI_half (a := a) (k := k) (f := (co l).c) (lo := (co (l.take (2 ^ k))).c) (hi := (co (l.drop (2 ^ k))).c) (fun i hi => by rw [co_takeL, if_pos hi]) (fun i hi => by rw [co_drop])
    rw [hp1]
    generalize hH : 2 ^ k = H at *
    clear ha ha2 hl hp1
    have e2 : ((2 * H : Nat) : Int).tdiv 2 = (H : Int) := by
      rw [show (2 : Int) = ((2 : Nat) : Int) from rfl, tdiv_nat]; congr 1; omega
    have e3 : decide (((2 * H : Nat) : Int) = 1) = false := decide_eq_false (by omega)
    have dlt : a / H ≤ a := Nat.div_le_self _ _
    have hle : H ≤ l.length := by omega
    have hd : (l.take l.length).drop H = l.drop H := by rw [List.take_length]
    refine run_culletref14_coefficients (by simp) ?_
    simp only [c_culletref14_coefficients, WS, List.getElem_cons_zero, List.getElem_cons_succ, Option.isNone_some, Option.isNone_none, List.getD_cons_zero, List.getD_cons_succ, I.at, atL, atO, atP, evp, evs, retV, ↓reduceIte, Nat.reduceEqDiff, reduceCtorEq]
    simp (maxSteps := 1000000) (disch := omega) only [WS, List.getElem_cons_zero, List.getElem_cons_succ, Option.isNone_some, Option.isNone_none, List.getD_cons_zero, List.getD_cons_succ, I.at, atL, atO, atP, evp, evs, retV, ↓reduceIte, Nat.reduceEqDiff, reduceCtorEq, AS, h.Xlen, hl2, e3, X_quo, e2, w_nat, show ((2 : Int) ≠ 0) = True from eq_true (by decide), eq_true hne, tdiv_nat, hw.sl.Xix hdiv, hw.sl.Xld hdiv, hc, cell_e16, h.XslcHi hle]
    refine X_call0 ((IH w (Fw.sub s 0 H) sw a ((l.take H).drop 0) WL (h.sub (Nat.zero_le _) hle) (by rw [List.drop_zero, List.length_take]; omega) (by omega) am (by omega) hw).mono ?_)
    rintro p w1 ⟨m1, o1, l1, c1, hB⟩
    rw [List.drop_zero] at c1
    have B := hB
    have h := h.up hB
    have hw := hw.up hB
    clear hB
    simp (maxSteps := 1000000) (disch := omega) only [WS, List.getElem_cons_zero, List.getElem_cons_succ, Option.isNone_some, Option.isNone_none, List.getD_cons_zero, List.getD_cons_succ, I.at, atL, atO, atP, evp, evs, retV, ↓reduceIte, Nat.reduceEqDiff, reduceCtorEq, AS, h.XslcLo hle]
    refine X_call0 ((IH w1 (Fw.sub s H l.length) sw (a + H) ((l.take l.length).drop H) WL (h.sub hle (Nat.le_refl _)) (by rw [hd, List.length_drop]; omega) (by omega) am2 (by omega) hw).mono ?_)
    rintro q w2 ⟨m2, o2, l2, c2, hB⟩
    rw [hd] at c2
    have o1 := o1.sl
    have o2 := o2.sl
    have h := h.up hB
    have hw := hw.up hB
    have o1 := o1.up hB
    have B := B.trans (hB.mono B.size)
    clear hB
    simp (maxSteps := 1000000) (disch := omega) only [WS, List.getElem_cons_zero, List.getElem_cons_succ, Option.isNone_some, Option.isNone_none, List.getD_cons_zero, List.getD_cons_succ, I.at, atL, atO, atP, evp, evs, retV, ↓reduceIte, Nat.reduceEqDiff, reduceCtorEq, AS]
    refine X_mks (x := (0 : El 16)) (by simp only [maxBytes]; omega) (by omega) fun d w3 od0 C0 => ?_
    simp (maxSteps := 1000000) (disch := omega) only [WS, List.getElem_cons_zero, List.getElem_cons_succ, Option.isNone_some, Option.isNone_none, List.getD_cons_zero, List.getD_cons_succ, I.at, atL, atO, atP, evp, evs, retV, ↓reduceIte, Nat.reduceEqDiff, reduceCtorEq, AS]
    refine loop_of (fun t w' => t 8 = .int .i64 (H : Int) ∧ t 9 = .int .u16 ((wel (a / H)).v.toNat : Int) ∧ t 10 = p ∧ t 11 = q ∧ t 12 = d ∧ RowKit.Below w2.heap.size w2 w' ∧ ∃ (i : Nat) (D : List (El 16)), t 13 = .int .i64 (i : Int) ∧ i ≤ H ∧ Ow w2.heap.size w' d D ∧ D.length = 2 * H ∧ (∀ j, j < i → (co D).c (H + j) = (co m1).c j + (co m2).c j) ∧ ∀ j, j < i → (co D).c j = (co m1).c j + wel (a / H) * ((co m1).c j + (co m2).c j))
      (fun t _ => H - (toI (t 13)).toNat) ⟨by simp only [WS, List.getElem_cons_zero, List.getElem_cons_succ, Option.isNone_some, Option.isNone_none, List.getD_cons_zero, List.getD_cons_succ, I.at, atL, atO, atP, evp, evs, retV, ↓reduceIte, Nat.reduceEqDiff, reduceCtorEq], by simp only [WS, List.getElem_cons_zero, List.getElem_cons_succ, Option.isNone_some, Option.isNone_none, List.getD_cons_zero, List.getD_cons_succ, I.at, atL, atO, atP, evp, evs, retV, ↓reduceIte, Nat.reduceEqDiff, reduceCtorEq], by simp only [WS, List.getElem_cons_zero, List.getElem_cons_succ, Option.isNone_some, Option.isNone_none, List.getD_cons_zero, List.getD_cons_succ, I.at, atL, atO, atP, evp, evs, retV, ↓reduceIte, Nat.reduceEqDiff, reduceCtorEq], by simp only [WS, List.getElem_cons_zero, List.getElem_cons_succ, Option.isNone_some, Option.isNone_none, List.getD_cons_zero, List.getD_cons_succ, I.at, atL, atO, atP, evp, evs, retV, ↓reduceIte, Nat.reduceEqDiff, reduceCtorEq], by simp only [WS, List.getElem_cons_zero, List.getElem_cons_succ, Option.isNone_some, Option.isNone_none, List.getD_cons_zero, List.getD_cons_succ, I.at, atL, atO, atP, evp, evs, retV, ↓reduceIte, Nat.reduceEqDiff, reduceCtorEq], C0, 0, _, rfl, by omega, od0, by simp, fun j hj => by omega, fun j hj => by omega⟩ ?_
    clear C0 od0
    rintro t w4 ⟨t8, t9, t10, t11, t12, C, i, D, t13, hi, od, lD, hD1, hD2⟩
    by_cases hlt : i < H
    · have i1 : i < m1.length := by omega
      have i2 : i < m2.length := by omega
      have iH : H + i < D.length := by omega
      have iD : i < D.length := by omega
      simp (maxSteps := 1000000) (disch := omega) only [WS, List.getElem_cons_zero, List.getElem_cons_succ, Option.isNone_some, Option.isNone_none, List.getD_cons_zero, List.getD_cons_succ, I.at, atL, atO, atP, evp, evs, retV, ↓reduceIte, Nat.reduceEqDiff, reduceCtorEq, AS, t8, t9, t10, t11, t12, t13]
      refine WP_dops ?_
      have p1 := (o1.up C).drew
      have p2 := (o2.up C).drew
      have od := od.drew
      simp (maxSteps := 1000000) (disch := omega) only [ES, List.mem_cons, List.not_mem_nil, implies_true, forall_const, WS, List.getElem_cons_zero, List.getElem_cons_succ, Option.isNone_some, Option.isNone_none, List.getD_cons_zero, List.getD_cons_succ, I.at, atL, atO, atP, evp, evs, retV, ↓reduceIte, Nat.reduceEqDiff, reduceCtorEq, AS, t8, t9, t10, t11, t12, t13, p1.Eix i1, p1.Eld i1, p2.Eix i2, p2.Eld i2, cell_e16, xor16, od.sl.Eix iH]
      refine Ow.Est od iH (m1[i] + m2[i]) fun w5 od5 hg => ?_
      have C5 := C.grown (grown_of_drew hg) C.size fun b hb => (od.blk b hb).1
      have iH5 : H + i < (D.set (H + i) (m1[i] + m2[i])).length := by rw [List.length_set]; exact iH
      have iD5 : i < (D.set (H + i) (m1[i] + m2[i])).length := by rw [List.length_set]; exact iD
      have e5 : (D.set (H + i) (m1[i] + m2[i]))[H + i] = m1[i] + m2[i] := List.getElem_set_self ..
      simp (maxSteps := 1000000) (disch := omega) only [ES, List.mem_cons, List.not_mem_nil, implies_true, forall_const, WS, List.getElem_cons_zero, List.getElem_cons_succ, Option.isNone_some, Option.isNone_none, List.getD_cons_zero, List.getD_cons_succ, I.at, atL, atO, atP, evp, evs, retV, ↓reduceIte, Nat.reduceEqDiff, reduceCtorEq, AS, t8, t9, t10, t11, t12, t13]
      refine WP_dops ?_
      have p1 := (o1.up C5).drew
      have od5 := od5.drew
      have z1 := p1.sees i1 Try.prog
      rw [cell_e16] at z1
      simp (maxSteps := 1000000) (disch := omega) only [ES, List.mem_cons, List.not_mem_nil, implies_true, forall_const, WS, List.getElem_cons_zero, List.getElem_cons_succ, Option.isNone_some, Option.isNone_none, List.getD_cons_zero, List.getD_cons_succ, I.at, atL, atO, atP, evp, evs, retV, ↓reduceIte, Nat.reduceEqDiff, reduceCtorEq, AS, t8, t9, t10, t11, t12, t13, p1.Eix i1, p1.Eld i1, od5.sl.Eix iH5, od5.sl.Eld iH5, e5, cell_e16]
      refine E_call0 ((culletref03_Mul_spec w5.drew (wel (a / H)) (m1[i] + m2[i])).mono ?_)
      rintro _ w6 ⟨rfl, rfl⟩
      simp (maxSteps := 1000000) (disch := omega) only [ES, List.mem_cons, List.not_mem_nil, implies_true, forall_const, WS, List.getElem_cons_zero, List.getElem_cons_succ, Option.isNone_some, Option.isNone_none, List.getD_cons_zero, List.getD_cons_succ, I.at, atL, atO, atP, evp, evs, retV, ↓reduceIte, Nat.reduceEqDiff, reduceCtorEq, AS, t8, t9, t10, t11, t12, t13, z1, xor16, od5.sl.Eix iD5]
      refine Ow.Est od5 iD5 (m1[i] + wel (a / H) * (m1[i] + m2[i])) fun w7 od7 hg7 => ?_
      have C7 := C5.grown (grown_of_drew hg7) C5.size fun b hb => (od.blk b hb).1
      simp (maxSteps := 1000000) (disch := omega) only [ES, List.mem_cons, List.not_mem_nil, implies_true, forall_const, WS, List.getElem_cons_zero, List.getElem_cons_succ, Option.isNone_some, Option.isNone_none, List.getD_cons_zero, List.getD_cons_succ, I.at, atL, atO, atP, evp, evs, retV, ↓reduceIte, Nat.reduceEqDiff, reduceCtorEq, AS, t8, t9, t10, t11, t12, t13]
      refine ⟨⟨C7, i + 1, _, rfl, by omega, od7, by rw [List.length_set, List.length_set]; exact lD, fun j hj => ?_, fun j hj => ?_⟩, by omega⟩
      · rw [co_set _ iD5, if_neg (by omega), co_set _ iH]
        by_cases hji : j = i
        · subst hji; rw [if_pos rfl, co_get m1 i1, co_get m2 i2]
        · rw [if_neg (by omega)]; exact hD1 j (by omega)
      · rw [co_set _ iD5]
        by_cases hji : j = i
        · subst hji; rw [if_pos rfl, co_get m1 i1, co_get m2 i2]
        · rw [if_neg hji, co_set _ iH, if_neg (by omega)]; exact hD2 j (by omega)
    · obtain rfl : i = H := by omega
      simp (maxSteps := 1000000) (disch := omega) only [WS, List.getElem_cons_zero, List.getElem_cons_succ, Option.isNone_some, Option.isNone_none, List.getD_cons_zero, List.getD_cons_succ, I.at, atL, atO, atP, evp, evs, retV, ↓reduceIte, Nat.reduceEqDiff, reduceCtorEq, AS, t8, t9, t10, t11, t12, t13]
      refine ⟨D, od.mono B.size, lD, fun j hj => ?_, B.trans (C.mono B.size)⟩
      by_cases hjH : j < i
      · rw [hD2 j hjH, (hh j hjH).2, c1 j hjH, c2 j hjH]
      · have h4 := hD1 (j - i) (by omega)
        have h5 := (hh (j - i) (by omega)).1
        rw [show i + (j - i) = j by omega] at h4 h5
        rw [h4, h5, c1 _ (by omega), c2 _ (by omega)]
theorem isC_nat {a : Int} {n len : Nat} (h : isC a n len = true) : ∃ b : Nat, a = (b : Int) ∧ b % n = 0 ∧ b + len ≤ 65536 := by
  have h := of_decide_eq_true h
  exact ⟨a.toNat, by omega, h.2.2.2, by omega⟩
def PF (w : World) (l : List (El 16)) (a : Int) (v : Value) (w' : World) : Prop := RowKit.Below w.heap.size w w' ∧ ((∃ k, k ≤ 16 ∧ l.length = 2 ^ k ∧ isC a (2 ^ k) (2 ^ k) = true ∧ ∃ sv m, v = .tuple #[sv, .int .i64 0] ∧ Ow w.heap.size w' sv m ∧ m.length = l.length ∧ ∀ i, i < 2 ^ k → (co m).c i = itF a.toNat k (co l).c i) ∨
      (isP (l.length : Int) = false ∧ v = .tuple #[.slice none 0 0, .int .i64 130]) ∨ (isP (l.length : Int) = true ∧ isC a l.length l.length = false ∧ v = .tuple #[.slice none 0 0, .int .i64 140]))
def PI (w : World) (l : List (El 16)) (a : Int) (v : Value) (w' : World) : Prop := RowKit.Below w.heap.size w w' ∧ ((∃ k, k ≤ 16 ∧ l.length = 2 ^ k ∧ isC a (2 ^ k) (2 ^ k) = true ∧ ∃ sv m, v = .tuple #[sv, .int .i64 0] ∧ Ow w.heap.size w' sv m ∧ m.length = l.length ∧ ∀ i, i < 2 ^ k → (co m).c i = itI a.toNat k (co l).c i) ∨
      (isP (l.length : Int) = false ∧ v = .tuple #[.slice none 0 0, .int .i64 130]) ∨ (isP (l.length : Int) = true ∧ isC a l.length l.length = false ∧ v = .tuple #[.slice none 0 0, .int .i64 140]))
def PE (w : World) (l : List (El 16)) (a b : Int) (v : Value) (w' : World) : Prop := RowKit.Below w.heap.size w w' ∧ ((∃ k, k ≤ 16 ∧ l.length = 2 ^ k ∧ isC a (2 ^ k) (2 ^ k) = true ∧ isC b (2 ^ k) (2 ^ k) = true ∧ ∃ sv m, v = .tuple #[sv, .int .i64 0] ∧ Ow w.heap.size w' sv m ∧ m.length = l.length ∧ ∀ i, i < 2 ^ k → (co m).c i = itF b.toNat k (itI a.toNat k (co l).c) i) ∨
      (isP (l.length : Int) = false ∧ v = .tuple #[.slice none 0 0, .int .i64 130]) ∨ (isP (l.length : Int) = true ∧ (isC a l.length l.length = false ∨ isC b l.length l.length = false) ∧ v = .tuple #[.slice none 0 0, .int .i64 140]))
def PO (w : World) (l : List (El 16)) (n a : Int) (v : Value) (w' : World) : Prop := RowKit.Below w.heap.size w w' ∧ ((∃ k q, k ≤ 16 ∧ n = ((2 ^ k : Nat) : Int) ∧ l.length = q * 2 ^ k ∧ q ≠ 0 ∧ isC a (2 ^ k) l.length = true ∧ ∃ sv m, v = .tuple #[sv, .int .i64 0] ∧ Ow w.heap.size w' sv m ∧ m.length = 2 ^ k ∧ ∀ i, i < 2 ^ k → (co m).c i = esum q (fun p => itI (a.toNat + p * 2 ^ k) k (fun j => (co l).c (p * 2 ^ k + j)) i)) ∨
      (isP n = false ∧ v = .tuple #[.slice none 0 0, .int .i64 130]) ∨ (isP n = true ∧ (l.length = 0 ∨ l.length % n.toNat ≠ 0) ∧ v = .tuple #[.slice none 0 0, .int .i64 6]) ∨ (isP n = true ∧ ¬ (l.length = 0 ∨ l.length % n.toNat ≠ 0) ∧ isC a n.toNat l.length = false ∧ v = .tuple #[.slice none 0 0, .int .i64 140]))
theorem culletref14_Forward_spec (w : World) (s : Value) (l : List (El 16)) (a : Int) (h : Sl w s l) (hb : l.length ≤ 70368744175616) : CallV Try.prog 55 [s, .int .i64 a] w fun v w' => PF w l a v w' := by
  unfold PF
  refine run_culletref14_Forward (by simp) ?_
  simp only [c_culletref14_Forward, WS, List.getElem_cons_zero, List.getElem_cons_succ, Option.isNone_some, Option.isNone_none, List.getD_cons_zero, List.getD_cons_succ, I.at, atL, atO, atP, evp, evs, retV, ↓reduceIte, Nat.reduceEqDiff, reduceCtorEq]
  simp (maxSteps := 1000000) (disch := omega) only [WS, List.getElem_cons_zero, List.getElem_cons_succ, Option.isNone_some, Option.isNone_none, List.getD_cons_zero, List.getD_cons_succ, I.at, atL, atO, atP, evp, evs, retV, ↓reduceIte, Nat.reduceEqDiff, reduceCtorEq, AS, h.Xlen]
  refine X_call0 ((culletref14_Power_spec w _).mono ?_)
  rintro _ w' ⟨rfl, rfl⟩
  cases hP : isP (l.length : Int) with
  | false =>
    simp (maxSteps := 1000000) (disch := omega) only [WS, List.getElem_cons_zero, List.getElem_cons_succ, Option.isNone_some, Option.isNone_none, List.getD_cons_zero, List.getD_cons_succ, I.at, atL, atO, atP, evp, evs, retV, ↓reduceIte, Nat.reduceEqDiff, reduceCtorEq, AS]
    exact ⟨RowKit.Below.refl _ _, Or.inr (Or.inl trivial)⟩
  | true =>
    obtain ⟨k, hk, hlk⟩ := (isP_iff _).1 hP
    have hl : l.length = 2 ^ k := by omega
    have h0 := Nat.two_pow_pos k
    simp (maxSteps := 1000000) (disch := omega) only [WS, List.getElem_cons_zero, List.getElem_cons_succ, Option.isNone_some, Option.isNone_none, List.getD_cons_zero, List.getD_cons_succ, I.at, atL, atO, atP, evp, evs, retV, ↓reduceIte, Nat.reduceEqDiff, reduceCtorEq, AS, h.Xlen]
    refine X_call0 ((culletref14_Coset_spec w' a l.length l.length (by omega) hb).mono ?_)
    rintro _ w2 ⟨rfl, rfl⟩
    cases hC : isC a l.length l.length with
    | false =>
      simp (maxSteps := 1000000) (disch := omega) only [WS, List.getElem_cons_zero, List.getElem_cons_succ, Option.isNone_some, Option.isNone_none, List.getD_cons_zero, List.getD_cons_succ, I.at, atL, atO, atP, evp, evs, retV, ↓reduceIte, Nat.reduceEqDiff, reduceCtorEq, AS]
      exact ⟨RowKit.Below.refl _ _, Or.inr (Or.inr trivial)⟩
    | true =>
      have hC2 := hC
      rw [hl] at hC2
      obtain ⟨b, rfl, hb1, hb2⟩ := isC_nat hC
      simp (maxSteps := 1000000) (disch := omega) only [WS, List.getElem_cons_zero, List.getElem_cons_succ, Option.isNone_some, Option.isNone_none, List.getD_cons_zero, List.getD_cons_succ, I.at, atL, atO, atP, evp, evs, retV, ↓reduceIte, Nat.reduceEqDiff, reduceCtorEq, AS]
      refine X_call0 ((culletref03_Elements_spec w2).mono ?_)
      rintro sw w3 ⟨⟨WL, hw⟩, hB⟩
      have B := hB
      have h := h.up hB
      clear hB
      simp (maxSteps := 1000000) (disch := omega) only [WS, List.getElem_cons_zero, List.getElem_cons_succ, Option.isNone_some, Option.isNone_none, List.getD_cons_zero, List.getD_cons_succ, I.at, atL, atO, atP, evp, evs, retV, ↓reduceIte, Nat.reduceEqDiff, reduceCtorEq, AS]
      refine X_call0 ((culletref14_values_spec k w3 s sw b l WL h hl hk (by rw [← hl]; exact hb1) (by rw [← hl]; exact hb2) hw).mono ?_)
      rintro sv w4 ⟨m, om, lm, cm, hB⟩
      simp (maxSteps := 1000000) (disch := omega) only [WS, List.getElem_cons_zero, List.getElem_cons_succ, Option.isNone_some, Option.isNone_none, List.getD_cons_zero, List.getD_cons_succ, I.at, atL, atO, atP, evp, evs, retV, ↓reduceIte, Nat.reduceEqDiff, reduceCtorEq, AS]
      exact ⟨B.trans (hB.mono B.size), Or.inl ⟨k, hk, hl, hC2, sv, m, rfl, om.mono B.size, by omega, cm⟩⟩
theorem culletref14_Inverse_spec (w : World) (s : Value) (l : List (El 16)) (a : Int) (h : Sl w s l) (hb : l.length ≤ 70368744175616) : CallV Try.prog 56 [s, .int .i64 a] w fun v w' => PI w l a v w' := by
  unfold PI
  refine run_culletref14_Inverse (by simp) ?_
  simp only [c_culletref14_Inverse, WS, List.getElem_cons_zero, List.getElem_cons_succ, Option.isNone_some, Option.isNone_none, List.getD_cons_zero, List.getD_cons_succ, I.at, atL, atO, atP, evp, evs, retV, ↓reduceIte, Nat.reduceEqDiff, reduceCtorEq]
  simp (maxSteps := 1000000) (disch := omega) only [WS, List.getElem_cons_zero, List.getElem_cons_succ, Option.isNone_some, Option.isNone_none, List.getD_cons_zero, List.getD_cons_succ, I.at, atL, atO, atP, evp, evs, retV, ↓reduceIte, Nat.reduceEqDiff, reduceCtorEq, AS, h.Xlen]
  refine X_call0 ((culletref14_Power_spec w _).mono ?_)
  rintro _ w' ⟨rfl, rfl⟩
  cases hP : isP (l.length : Int) with
  | false =>
    simp (maxSteps := 1000000) (disch := omega) only [WS, List.getElem_cons_zero, List.getElem_cons_succ, Option.isNone_some, Option.isNone_none, List.getD_cons_zero, List.getD_cons_succ, I.at, atL, atO, atP, evp, evs, retV, ↓reduceIte, Nat.reduceEqDiff, reduceCtorEq, AS]
    exact ⟨RowKit.Below.refl _ _, Or.inr (Or.inl trivial)⟩
  | true =>
    obtain ⟨k, hk, hlk⟩ := (isP_iff _).1 hP
    have hl : l.length = 2 ^ k := by omega
    have h0 := Nat.two_pow_pos k
    simp (maxSteps := 1000000) (disch := omega) only [WS, List.getElem_cons_zero, List.getElem_cons_succ, Option.isNone_some, Option.isNone_none, List.getD_cons_zero, List.getD_cons_succ, I.at, atL, atO, atP, evp, evs, retV, ↓reduceIte, Nat.reduceEqDiff, reduceCtorEq, AS, h.Xlen]
    refine X_call0 ((culletref14_Coset_spec w' a l.length l.length (by omega) hb).mono ?_)
    rintro _ w2 ⟨rfl, rfl⟩
    cases hC : isC a l.length l.length with
    | false =>
      simp (maxSteps := 1000000) (disch := omega) only [WS, List.getElem_cons_zero, List.getElem_cons_succ, Option.isNone_some, Option.isNone_none, List.getD_cons_zero, List.getD_cons_succ, I.at, atL, atO, atP, evp, evs, retV, ↓reduceIte, Nat.reduceEqDiff, reduceCtorEq, AS]
      exact ⟨RowKit.Below.refl _ _, Or.inr (Or.inr trivial)⟩
    | true =>
      have hC2 := hC
      rw [hl] at hC2
      obtain ⟨b, rfl, hb1, hb2⟩ := isC_nat hC
      simp (maxSteps := 1000000) (disch := omega) only [WS, List.getElem_cons_zero, List.getElem_cons_succ, Option.isNone_some, Option.isNone_none, List.getD_cons_zero, List.getD_cons_succ, I.at, atL, atO, atP, evp, evs, retV, ↓reduceIte, Nat.reduceEqDiff, reduceCtorEq, AS]
      refine X_call0 ((culletref03_Elements_spec w2).mono ?_)
      rintro sw w3 ⟨⟨WL, hw⟩, hB⟩
      have B := hB
      have h := h.up hB
      clear hB
      simp (maxSteps := 1000000) (disch := omega) only [WS, List.getElem_cons_zero, List.getElem_cons_succ, Option.isNone_some, Option.isNone_none, List.getD_cons_zero, List.getD_cons_succ, I.at, atL, atO, atP, evp, evs, retV, ↓reduceIte, Nat.reduceEqDiff, reduceCtorEq, AS]
      refine X_call0 ((culletref14_coefficients_spec k w3 s sw b l WL h hl hk (by rw [← hl]; exact hb1) (by rw [← hl]; exact hb2) hw).mono ?_)
      rintro sv w4 ⟨m, om, lm, cm, hB⟩
      simp (maxSteps := 1000000) (disch := omega) only [WS, List.getElem_cons_zero, List.getElem_cons_succ, Option.isNone_some, Option.isNone_none, List.getD_cons_zero, List.getD_cons_succ, I.at, atL, atO, atP, evp, evs, retV, ↓reduceIte, Nat.reduceEqDiff, reduceCtorEq, AS]
      exact ⟨B.trans (hB.mono B.size), Or.inl ⟨k, hk, hl, hC2, sv, m, rfl, om.mono B.size, by omega, cm⟩⟩
theorem culletref14_Extend_spec (w : World) (s : Value) (l : List (El 16)) (a b : Int) (h : Sl w s l) (hb : l.length ≤ 70368744175616) : CallV Try.prog 58 [s, .int .i64 a, .int .i64 b] w fun v w' => PE w l a b v w' := by
  unfold PE
  refine run_culletref14_Extend (by simp) ?_
  simp only [c_culletref14_Extend, WS, List.getElem_cons_zero, List.getElem_cons_succ, Option.isNone_some, Option.isNone_none, List.getD_cons_zero, List.getD_cons_succ, I.at, atL, atO, atP, evp, evs, retV, ↓reduceIte, Nat.reduceEqDiff, reduceCtorEq]
  simp (maxSteps := 1000000) (disch := omega) only [WS, List.getElem_cons_zero, List.getElem_cons_succ, Option.isNone_some, Option.isNone_none, List.getD_cons_zero, List.getD_cons_succ, I.at, atL, atO, atP, evp, evs, retV, ↓reduceIte, Nat.reduceEqDiff, reduceCtorEq, AS, h.Xlen]
  refine X_call0 ((culletref14_Power_spec w _).mono ?_)
  rintro _ w' ⟨rfl, rfl⟩
  cases hP : isP (l.length : Int) with
  | false =>
    simp (maxSteps := 1000000) (disch := omega) only [WS, List.getElem_cons_zero, List.getElem_cons_succ, Option.isNone_some, Option.isNone_none, List.getD_cons_zero, List.getD_cons_succ, I.at, atL, atO, atP, evp, evs, retV, ↓reduceIte, Nat.reduceEqDiff, reduceCtorEq, AS]
    exact ⟨RowKit.Below.refl _ _, Or.inr (Or.inl trivial)⟩
  | true =>
    obtain ⟨k, hk, hlk⟩ := (isP_iff _).1 hP
    have hl : l.length = 2 ^ k := by omega
    have h0 := Nat.two_pow_pos k
    simp (maxSteps := 1000000) (disch := omega) only [WS, List.getElem_cons_zero, List.getElem_cons_succ, Option.isNone_some, Option.isNone_none, List.getD_cons_zero, List.getD_cons_succ, I.at, atL, atO, atP, evp, evs, retV, ↓reduceIte, Nat.reduceEqDiff, reduceCtorEq, AS, h.Xlen]
    refine X_call0 ((culletref14_Coset_spec w' a l.length l.length (by omega) hb).mono ?_)
    rintro _ w2 ⟨rfl, rfl⟩
    cases hC : isC a l.length l.length with
    | false =>
      simp (maxSteps := 1000000) (disch := omega) only [WS, List.getElem_cons_zero, List.getElem_cons_succ, Option.isNone_some, Option.isNone_none, List.getD_cons_zero, List.getD_cons_succ, I.at, atL, atO, atP, evp, evs, retV, ↓reduceIte, Nat.reduceEqDiff, reduceCtorEq, AS]
      exact ⟨RowKit.Below.refl _ _, Or.inr (Or.inr (Or.inl trivial))⟩
    | true =>
      simp (maxSteps := 1000000) (disch := omega) only [WS, List.getElem_cons_zero, List.getElem_cons_succ, Option.isNone_some, Option.isNone_none, List.getD_cons_zero, List.getD_cons_succ, I.at, atL, atO, atP, evp, evs, retV, ↓reduceIte, Nat.reduceEqDiff, reduceCtorEq, AS, h.Xlen]
      refine X_call0 ((culletref14_Coset_spec w2 b l.length l.length (by omega) hb).mono ?_)
      rintro _ w3 ⟨rfl, rfl⟩
      cases hD : isC b l.length l.length with
      | false =>
        simp (maxSteps := 1000000) (disch := omega) only [WS, List.getElem_cons_zero, List.getElem_cons_succ, Option.isNone_some, Option.isNone_none, List.getD_cons_zero, List.getD_cons_succ, I.at, atL, atO, atP, evp, evs, retV, ↓reduceIte, Nat.reduceEqDiff, reduceCtorEq, AS]
        exact ⟨RowKit.Below.refl _ _, Or.inr (Or.inr (Or.inr trivial))⟩
      | true =>
        have hC2 := hC
        have hD2 := hD
        rw [hl] at hC2 hD2
        obtain ⟨a, rfl, ha1, ha2⟩ := isC_nat hC
        obtain ⟨b, rfl, hb1, hb2⟩ := isC_nat hD
        rw [hl] at ha1 ha2 hb1 hb2
        simp (maxSteps := 1000000) (disch := omega) only [WS, List.getElem_cons_zero, List.getElem_cons_succ, Option.isNone_some, Option.isNone_none, List.getD_cons_zero, List.getD_cons_succ, I.at, atL, atO, atP, evp, evs, retV, ↓reduceIte, Nat.reduceEqDiff, reduceCtorEq, AS]
        refine X_call0 ((culletref03_Elements_spec w3).mono ?_)
        rintro sw w3 ⟨⟨WL, hw⟩, hB⟩
        have B := hB
        have h := h.up hB
        clear hB
        simp (maxSteps := 1000000) (disch := omega) only [WS, List.getElem_cons_zero, List.getElem_cons_succ, Option.isNone_some, Option.isNone_none, List.getD_cons_zero, List.getD_cons_succ, I.at, atL, atO, atP, evp, evs, retV, ↓reduceIte, Nat.reduceEqDiff, reduceCtorEq, AS]
        refine X_call0 ((culletref14_coefficients_spec k w3 s sw a l WL h hl hk ha1 ha2 hw).mono ?_)
        rintro sv w4 ⟨m, om, lm, cm, hB⟩
        have hw := hw.up hB
        have B := B.trans (hB.mono B.size)
        clear hB
        simp (maxSteps := 1000000) (disch := omega) only [WS, List.getElem_cons_zero, List.getElem_cons_succ, Option.isNone_some, Option.isNone_none, List.getD_cons_zero, List.getD_cons_succ, I.at, atL, atO, atP, evp, evs, retV, ↓reduceIte, Nat.reduceEqDiff, reduceCtorEq, AS]
        refine X_call0 ((culletref14_values_spec k w4 sv sw b m WL om.sl lm hk hb1 hb2 hw).mono ?_)
        rintro sv5 w5 ⟨m5, om5, lm5, cm5, hB⟩
        simp (maxSteps := 1000000) (disch := omega) only [WS, List.getElem_cons_zero, List.getElem_cons_succ, Option.isNone_some, Option.isNone_none, List.getD_cons_zero, List.getD_cons_succ, I.at, atL, atO, atP, evp, evs, retV, ↓reduceIte, Nat.reduceEqDiff, reduceCtorEq, AS]
        refine ⟨B.trans (hB.mono B.size), Or.inl ⟨k, hk, hl, hC2, hD2, sv5, m5, rfl, om5.mono B.size, by omega, fun i hi => ?_⟩⟩
        rw [cm5 i hi]
        exact itF_loc (n := 2 ^ k) (Nat.mod_self _) cm i hi
theorem culletref14_Fold_spec (w : World) (s : Value) (l : List (El 16)) (n a : Int) (h : Sl w s l) (hb : l.length ≤ 70368744175616) :
    CallV Try.prog 59 [s, .int .i64 n, .int .i64 a] w fun v w' => PO w l n a v w' := by
  unfold PO
  refine run_culletref14_Fold (by simp) ?_
  simp only [c_culletref14_Fold, WS, List.getElem_cons_zero, List.getElem_cons_succ, Option.isNone_some, Option.isNone_none, List.getD_cons_zero, List.getD_cons_succ, I.at, atL, atO, atP, evp, evs, retV, ↓reduceIte, Nat.reduceEqDiff, reduceCtorEq]
  refine X_call0 ((culletref14_Power_spec w n).mono ?_)
  rintro _ w' ⟨rfl, rfl⟩
  cases hp : isP n with
  | false =>
    simp (maxSteps := 1000000) (disch := omega) only [WS, List.getElem_cons_zero, List.getElem_cons_succ, Option.isNone_some, Option.isNone_none, List.getD_cons_zero, List.getD_cons_succ, I.at, atL, atO, atP, evp, evs, retV, ↓reduceIte, Nat.reduceEqDiff, reduceCtorEq, AS]
    exact ⟨RowKit.Below.refl _ _, Or.inr (Or.inl trivial)⟩
  | true =>
    obtain ⟨k, hk, rfl⟩ := (isP_iff _).1 hp
    have hp0 := Nat.two_pow_pos k
    have hp16 := pow_le16 hk
    have hnz : (((2 ^ k : Nat) : Int) ≠ 0) = True := eq_true (by omega)
    simp only [Int.toNat_natCast]
    by_cases hz : l.length = 0
    · simp (maxSteps := 1000000) (disch := omega) only [WS, List.getElem_cons_zero, List.getElem_cons_succ, Option.isNone_some, Option.isNone_none, List.getD_cons_zero, List.getD_cons_succ, I.at, atL, atO, atP, evp, evs, retV, ↓reduceIte, Nat.reduceEqDiff, reduceCtorEq, AS, h.Xlen]
      exact ⟨RowKit.Below.refl _ _, Or.inr (Or.inr (Or.inl (Or.inl hz)))⟩
    by_cases hmod : l.length % 2 ^ k = 0
    · simp (maxSteps := 1000000) (disch := omega) only [WS, List.getElem_cons_zero, List.getElem_cons_succ, Option.isNone_some, Option.isNone_none, List.getD_cons_zero, List.getD_cons_succ, I.at, atL, atO, atP, evp, evs, retV, ↓reduceIte, Nat.reduceEqDiff, reduceCtorEq, AS, h.Xlen, X_rem, hnz, tmod_nat]
      refine X_call0 ((culletref14_Coset_spec w' a (2 ^ k) l.length (by omega) hb).mono ?_)
      rintro _ w ⟨rfl, rfl⟩
      cases hc : isC a (2 ^ k) l.length with
      | false =>
        simp (maxSteps := 1000000) (disch := omega) only [WS, List.getElem_cons_zero, List.getElem_cons_succ, Option.isNone_some, Option.isNone_none, List.getD_cons_zero, List.getD_cons_succ, I.at, atL, atO, atP, evp, evs, retV, ↓reduceIte, Nat.reduceEqDiff, reduceCtorEq, AS]
        exact ⟨RowKit.Below.refl _ _, Or.inr (Or.inr (Or.inr fun e => e.elim hz (fun e => e hmod)))⟩
      | true =>
        have hc2 := hc
        unfold isC at hc2
        obtain ⟨c1, c2, c3, c4⟩ := of_decide_eq_true hc2
        obtain ⟨A, rfl⟩ : ∃ A : Nat, a = (A : Int) := ⟨a.toNat, by omega⟩
        rw [Int.toNat_natCast] at c4
        rw [Int.toNat_natCast]
        obtain ⟨q, hq⟩ : ∃ q, l.length = q * 2 ^ k := ⟨l.length / 2 ^ k, by have := Nat.div_add_mod l.length (2 ^ k); rw [Nat.mul_comm]; omega⟩
        simp (maxSteps := 1000000) (disch := omega) only [WS, List.getElem_cons_zero, List.getElem_cons_succ, Option.isNone_some, Option.isNone_none, List.getD_cons_zero, List.getD_cons_succ, I.at, atL, atO, atP, evp, evs, retV, ↓reduceIte, Nat.reduceEqDiff, reduceCtorEq, AS]
        refine X_call0 ((culletref03_Elements_spec w).mono ?_)
        rintro sw w0 ⟨⟨WL, hw⟩, hB0⟩
        have h := h.up hB0
        simp (maxSteps := 1000000) (disch := omega) only [WS, List.getElem_cons_zero, List.getElem_cons_succ, Option.isNone_some, Option.isNone_none, List.getD_cons_zero, List.getD_cons_succ, I.at, atL, atO, atP, evp, evs, retV, ↓reduceIte, Nat.reduceEqDiff, reduceCtorEq, AS]
        refine X_mks (x := (0 : El 16)) (by simp only [maxBytes]; omega) (by omega) fun sv w1 ov hB => ?_
        simp (maxSteps := 1000000) (disch := omega) only [WS, List.getElem_cons_zero, List.getElem_cons_succ, Option.isNone_some, Option.isNone_none, List.getD_cons_zero, List.getD_cons_succ, I.at, atL, atO, atP, evp, evs, retV, ↓reduceIte, Nat.reduceEqDiff, reduceCtorEq, AS]
        refine loop_of (fun t w' => t 0 = s ∧ t 1 = .int .i64 ((2 ^ k : Nat) : Int) ∧ t 2 = .int .i64 (A : Int) ∧ t 9 = sw ∧ t 10 = sv ∧ RowKit.Below w0.heap.size w0 w' ∧ ∃ (p : Nat) (m : List (El 16)), t 11 = .int .i64 ((p * 2 ^ k : Nat) : Int) ∧ p ≤ q ∧ Ow w0.heap.size w' sv m ∧ m.length = 2 ^ k ∧ ∀ i, i < 2 ^ k → (co m).c i = esum p (fun p => itI (A + p * 2 ^ k) k (fun j => (co l).c (p * 2 ^ k + j)) i))
          (fun t _ => l.length - (toI (t 11)).toNat) ⟨by simp only [WS, List.getElem_cons_zero, List.getElem_cons_succ, Option.isNone_some, Option.isNone_none, List.getD_cons_zero, List.getD_cons_succ, I.at, atL, atO, atP, evp, evs, retV, ↓reduceIte, Nat.reduceEqDiff, reduceCtorEq], by simp only [WS, List.getElem_cons_zero, List.getElem_cons_succ, Option.isNone_some, Option.isNone_none, List.getD_cons_zero, List.getD_cons_succ, I.at, atL, atO, atP, evp, evs, retV, ↓reduceIte, Nat.reduceEqDiff, reduceCtorEq], by simp only [WS, List.getElem_cons_zero, List.getElem_cons_succ, Option.isNone_some, Option.isNone_none, List.getD_cons_zero, List.getD_cons_succ, I.at, atL, atO, atP, evp, evs, retV, ↓reduceIte, Nat.reduceEqDiff, reduceCtorEq], by simp only [WS, List.getElem_cons_zero, List.getElem_cons_succ, Option.isNone_some, Option.isNone_none, List.getD_cons_zero, List.getD_cons_succ, I.at, atL, atO, atP, evp, evs, retV, ↓reduceIte, Nat.reduceEqDiff, reduceCtorEq], by simp only [WS, List.getElem_cons_zero, List.getElem_cons_succ, Option.isNone_some, Option.isNone_none, List.getD_cons_zero, List.getD_cons_succ, I.at, atL, atO, atP, evp, evs, retV, ↓reduceIte, Nat.reduceEqDiff, reduceCtorEq], hB, 0, _, by simp only [WS, List.getElem_cons_zero, List.getElem_cons_succ, Option.isNone_some, Option.isNone_none, List.getD_cons_zero, List.getD_cons_succ, I.at, atL, atO, atP, evp, evs, retV, ↓reduceIte, Nat.reduceEqDiff, reduceCtorEq]; simp, by omega, ov, by simp, fun i hi => by rw [co_replicate]; rfl⟩ ?_
        clear ov hB
        rintro t w2 ⟨t0, t1, t2, t9, t10, hB, p, m, t11, hpq, om, hml, hm⟩
        have h' := h.up hB
        by_cases hlt : p < q
        · have hle : p * 2 ^ k + 2 ^ k ≤ l.length := by
            rw [hq, show p * 2 ^ k + 2 ^ k = (p + 1) * 2 ^ k by rw [Nat.add_mul, Nat.one_mul]]
            exact Nat.mul_le_mul_right _ hlt
          have hsub := h'.sub (show p * 2 ^ k ≤ p * 2 ^ k + 2 ^ k by omega) hle
          have hpl : p * 2 ^ k < l.length := by omega
          have wA : IntKind.i64.wrap ((A : Int) + ((p * 2 ^ k : Nat) : Int)) = ((A + p * 2 ^ k : Nat) : Int) := w_add _ _ (by omega)
          have wB : IntKind.i64.wrap (((p * 2 ^ k : Nat) : Int) + ((2 ^ k : Nat) : Int)) = ((p * 2 ^ k + 2 ^ k : Nat) : Int) := w_add _ _ (by omega)
          generalize hP : p * 2 ^ k = P at *
          have hll : ((l.take (P + 2 ^ k)).drop P).length = 2 ^ k := by simp only [List.length_drop, List.length_take]; omega
          have hmd : (A + P) % 2 ^ k = 0 := by rw [Nat.add_mod, c4, ← hP, Nat.mul_mod_left, Nat.zero_add, Nat.zero_mod]
          simp (maxSteps := 1000000) (disch := omega) only [WS, List.getElem_cons_zero, List.getElem_cons_succ, Option.isNone_some, Option.isNone_none, List.getD_cons_zero, List.getD_cons_succ, I.at, atL, atO, atP, evp, evs, retV, ↓reduceIte, Nat.reduceEqDiff, reduceCtorEq, AS, t0, t1, t2, t9, t10, t11, h'.Xlen, wA, wB, h'.Xslc (show P ≤ P + 2 ^ k by omega) hle]
          refine X_call0 ((culletref14_coefficients_spec k w2 _ sw (A + P) _ WL hsub hll hk hmd (by omega) (hw.up hB)).mono ?_)
          rintro sd w3 ⟨d, od, hdl, hd, hB3⟩
          have hbl : ∀ b, Fw.blk sd = some b → w2.heap.size ≤ b := fun b hb => (od.blk b hb).1
          have hsl : ∀ b, Fw.blk sv = some b → b < w2.heap.size := fun b hb => (om.blk b hb).2
          have hne : Fw.blk sd ≠ Fw.blk sv := by
            intro e
            obtain ⟨b, hb, -⟩ := od.sl.blk_lt (by intro e; rw [e] at hdl; simp at hdl; omega)
            have h1 := hbl b hb
            have h2 := hsl b (e ▸ hb)
            omega
          have od := od.sl
          have om := om.up hB3
          have hB := hB.trans (hB3.mono hB.size)
          have svb : ∀ b, Fw.blk sv = some b → w0.heap.size ≤ b := fun b hb => (om.blk b hb).1
          simp (maxSteps := 1000000) (disch := omega) only [WS, List.getElem_cons_zero, List.getElem_cons_succ, Option.isNone_some, Option.isNone_none, List.getD_cons_zero, List.getD_cons_succ, I.at, atL, atO, atP, evp, evs, retV, ↓reduceIte, Nat.reduceEqDiff, reduceCtorEq, AS, t0, t1, t2, t9, t10, t11]
          refine loop_of (fun t w' => t 0 = s ∧ t 1 = .int .i64 ((2 ^ k : Nat) : Int) ∧ t 2 = .int .i64 (A : Int) ∧ t 9 = sw ∧ t 10 = sv ∧ t 11 = .int .i64 (P : Int) ∧ t 12 = sd ∧ RowKit.Below w0.heap.size w0 w' ∧ Sl w' sd d ∧ ∃ (i : Nat) (m' : List (El 16)), t 13 = .int .i64 (i : Int) ∧ i ≤ 2 ^ k ∧ Ow w0.heap.size w' sv m' ∧ m'.length = 2 ^ k ∧ ∀ x, (co m').c x = if x < i then (co m).c x + (co d).c x else (co m).c x)
            (fun t _ => 2 ^ k - (toI (t 13)).toNat) ⟨by simp only [WS, List.getElem_cons_zero, List.getElem_cons_succ, Option.isNone_some, Option.isNone_none, List.getD_cons_zero, List.getD_cons_succ, I.at, atL, atO, atP, evp, evs, retV, ↓reduceIte, Nat.reduceEqDiff, reduceCtorEq]; exact t0, by simp only [WS, List.getElem_cons_zero, List.getElem_cons_succ, Option.isNone_some, Option.isNone_none, List.getD_cons_zero, List.getD_cons_succ, I.at, atL, atO, atP, evp, evs, retV, ↓reduceIte, Nat.reduceEqDiff, reduceCtorEq]; exact t1, by simp only [WS, List.getElem_cons_zero, List.getElem_cons_succ, Option.isNone_some, Option.isNone_none, List.getD_cons_zero, List.getD_cons_succ, I.at, atL, atO, atP, evp, evs, retV, ↓reduceIte, Nat.reduceEqDiff, reduceCtorEq]; exact t2, by simp only [WS, List.getElem_cons_zero, List.getElem_cons_succ, Option.isNone_some, Option.isNone_none, List.getD_cons_zero, List.getD_cons_succ, I.at, atL, atO, atP, evp, evs, retV, ↓reduceIte, Nat.reduceEqDiff, reduceCtorEq]; exact t9, by simp only [WS, List.getElem_cons_zero, List.getElem_cons_succ, Option.isNone_some, Option.isNone_none, List.getD_cons_zero, List.getD_cons_succ, I.at, atL, atO, atP, evp, evs, retV, ↓reduceIte, Nat.reduceEqDiff, reduceCtorEq]; exact t10, by simp only [WS, List.getElem_cons_zero, List.getElem_cons_succ, Option.isNone_some, Option.isNone_none, List.getD_cons_zero, List.getD_cons_succ, I.at, atL, atO, atP, evp, evs, retV, ↓reduceIte, Nat.reduceEqDiff, reduceCtorEq]; exact t11, by simp only [WS, List.getElem_cons_zero, List.getElem_cons_succ, Option.isNone_some, Option.isNone_none, List.getD_cons_zero, List.getD_cons_succ, I.at, atL, atO, atP, evp, evs, retV, ↓reduceIte, Nat.reduceEqDiff, reduceCtorEq], hB, od, 0, m, rfl, by omega, om, hml, fun x => by rw [if_neg (by omega)]⟩ ?_
          clear t0 t1 t2 t9 t10 t11 hB od om
          rintro t w4 ⟨t0, t1, t2, t9, t10, t11, t12, hB, od, i, m', t13, hi, om, hml', hco⟩
          by_cases hil : i < 2 ^ k
          · have him : i < m'.length := by omega
            have hid : i < d.length := by omega
            simp (maxSteps := 1000000) (disch := omega) only [WS, List.getElem_cons_zero, List.getElem_cons_succ, Option.isNone_some, Option.isNone_none, List.getD_cons_zero, List.getD_cons_succ, I.at, atL, atO, atP, evp, evs, retV, ↓reduceIte, Nat.reduceEqDiff, reduceCtorEq, AS, t0, t1, t2, t9, t10, t11, t12, t13]
            refine WP_dops ?_
            have od1 := od.drew
            have om1 := om.drew
            simp (maxSteps := 1000000) (disch := omega) only [ES, List.mem_cons, List.not_mem_nil, implies_true, forall_const, WS, List.getElem_cons_zero, List.getElem_cons_succ, Option.isNone_some, Option.isNone_none, List.getD_cons_zero, List.getD_cons_succ, I.at, atL, atO, atP, evp, evs, retV, ↓reduceIte, Nat.reduceEqDiff, reduceCtorEq, AS, t0, t1, t2, t9, t10, t11, t12, t13, od1.Eix hid, od1.Eld hid, om1.sl.Eix him, om1.sl.Eld him, cell_e16, xor16]
            refine Ow.Est om1 him (m'[i] + d[i]) fun w5 om5 hg5 => ?_
            have hg5 := grown_of_drew hg5
            simp (maxSteps := 1000000) (disch := omega) only [ES, List.mem_cons, List.not_mem_nil, implies_true, forall_const, WS, List.getElem_cons_zero, List.getElem_cons_succ, Option.isNone_some, Option.isNone_none, List.getD_cons_zero, List.getD_cons_succ, I.at, atL, atO, atP, evp, evs, retV, ↓reduceIte, Nat.reduceEqDiff, reduceCtorEq, AS, t0, t1, t2, t9, t10, t11, t12, t13]
            refine ⟨⟨hB.grown hg5 hB.size svb, od.grown hg5 (Or.inl hne), i + 1, _, rfl, by omega, om5, by simp [hml'], fun x => ?_⟩, by omega⟩
            rw [co_set _ him, hco x]
            by_cases hx : x = i
            · subst hx
              have := hco x
              rw [if_neg (by omega), co_get m' him] at this
              rw [if_pos rfl, if_pos (by omega), this, co_get d hid]
            · rw [if_neg hx]
              by_cases hxi : x < i
              · rw [if_pos hxi, if_pos (by omega)]
              · rw [if_neg hxi, if_neg (by omega)]
          · simp (maxSteps := 1000000) (disch := omega) only [WS, List.getElem_cons_zero, List.getElem_cons_succ, Option.isNone_some, Option.isNone_none, List.getD_cons_zero, List.getD_cons_succ, I.at, atL, atO, atP, evp, evs, retV, ↓reduceIte, Nat.reduceEqDiff, reduceCtorEq, AS, t0, t1, t2, t9, t10, t11, t12, t13, wB]
            refine ⟨⟨hB, p + 1, m', by rw [← hP, Nat.add_mul, Nat.one_mul], by omega, om, hml', fun x hx => ?_⟩, by omega⟩
            rw [hco x, if_pos (by omega), hm x hx, hd x hx]
            show _ = esum p _ + itI (A + p * 2 ^ k) k (fun j => (co l).c (p * 2 ^ k + j)) x
            rw [hP]
            congr 1
            refine itI_loc (n := 2 ^ k) (Nat.mod_self _) (fun j hj => ?_) x hx
            rw [co_drop, co_takeL, if_pos (by omega)]
        · obtain rfl : p = q := by omega
          simp (maxSteps := 1000000) (disch := omega) only [WS, List.getElem_cons_zero, List.getElem_cons_succ, Option.isNone_some, Option.isNone_none, List.getD_cons_zero, List.getD_cons_succ, I.at, atL, atO, atP, evp, evs, retV, ↓reduceIte, Nat.reduceEqDiff, reduceCtorEq, AS, t0, t1, t2, t9, t10, t11, h'.Xlen, hq]
          exact ⟨hB0.trans (hB.mono hB0.size), Or.inl ⟨k, p, hk, rfl, rfl, by rintro rfl; rw [Nat.zero_mul] at hq; omega, hq ▸ hc, sv, m, rfl, om.mono hB0.size, hml, hm⟩⟩
    · simp (maxSteps := 1000000) (disch := omega) only [WS, List.getElem_cons_zero, List.getElem_cons_succ, Option.isNone_some, Option.isNone_none, List.getD_cons_zero, List.getD_cons_succ, I.at, atL, atO, atP, evp, evs, retV, ↓reduceIte, Nat.reduceEqDiff, reduceCtorEq, AS, h.Xlen, X_rem, hnz, tmod_nat]
      exact ⟨RowKit.Below.refl _ _, Or.inr (Or.inr (Or.inl (Or.inr hmod)))⟩

end Go.Proofs.Ytpmfeaajpjjfiaa.Fw
