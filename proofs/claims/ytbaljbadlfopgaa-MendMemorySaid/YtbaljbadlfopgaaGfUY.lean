import Derived.Test.YtbaljbadlfopgaaProg
import Derived.Test.YtbaljbadlfopgaaFwTY
import Derived.Test.YtbaljbadlfopgaaSMnmY
import Derived.Test.YtbaljbadlfopgaaGfXY
set_option linter.all false
set_option linter.unusedVariables false
set_option linter.unusedSimpArgs false
set_option maxRecDepth 100000
set_option maxHeartbeats 1000000
namespace Go.Proofs.Ytbaljbadlfopgaa.Fw
open Go Go.Fw Go.Proofs
attribute [local irreducible] stepI
def c_culletlaw19_horner : C := .seq (.ops [⟨0, (some 4), none, .mov (.c (.int .u8 0)), []⟩]) (.seq (.ops [⟨0, (some 5), none, .mov (.c (.int .u8 0)), []⟩]) (.seq (.seq (.ops [⟨0, (some 7), none, .mov (.t 0), []⟩, ⟨1, (some 8), none, .len (.t 7), []⟩, ⟨2, (some 9), none, .bin .sub (.t 8) (.c (.int .i64 1)), []⟩, ⟨3, (some 6), none, .mov (.t 9), []⟩]) (.block 0 (.loop (.seq (.seq (.ops [⟨0, (some 10), none, .mov (.t 6), []⟩, ⟨1, (some 11), none, .bin .geq (.t 10) (.c (.int .i64 0)), []⟩]) (.ite (.t 11) .skip (.exit 0))) (.seq (.block 1 (.dops [⟨0, (some 14), none, .mov (.t 5), []⟩, ⟨1, (some 15), none, .mov (.t 1), []⟩, ⟨2, (some 16), none, .call (.c (.func (.func 53) #[] #[])) [.t 14, .t 15], []⟩, ⟨3, (some 17), none, .mov (.t 0), []⟩, ⟨4, (some 18), none, .mov (.t 6), []⟩, ⟨5, (some 19), none, .ixs 1 (.t 17) (.t 18), []⟩, ⟨6, (some 20), none, .ld (.t 19), [2]⟩, ⟨7, (some 21), none, .bin .xor (.t 16) (.t 20), []⟩, ⟨8, (some 5), none, .mov (.t 21), []⟩])) (.ops [⟨0, (some 12), none, .mov (.t 6), []⟩, ⟨1, (some 13), none, .bin .sub (.t 12) (.c (.int .i64 1)), []⟩, ⟨2, (some 6), none, .mov (.t 13), []⟩])))))) (.seq (.ops [⟨0, (some 22), none, .mov (.t 5), []⟩, ⟨1, (some 4), none, .mov (.t 22), []⟩]) .ret)))
attribute [irreducible] c_culletlaw19_horner
theorem run_culletlaw19_horner {args : List Value} {w : World} {K : Value → World → Prop} (hn : args.length ≤ 23) (h : WP Try.prog c_culletlaw19_horner (endQ [.t 4] K) (initT args) w) : CallV Try.prog 15 args w K :=
  call_of follows Try.func15 (by kernel_rfl) (by kernel_rfl) hn h
end Go.Proofs.Ytbaljbadlfopgaa.Fw
namespace Go.Proofs.Ytbaljbadlfopgaa.Fw
open Go Go.Fw
theorem culletlaw19_horner_spec (w : World) (s : Value) (p : List (El 8)) (x : El 8) (h : Sl w s p) (hb : p.length ≤ 70368744175616) :
    CallV Try.prog 15 [s, .int .u8 (x.v.toNat : Int)] w fun v w' => v = .int .u8 ((evl p x).v.toNat : Int) ∧ RowKit.Below w.heap.size w w' := by
  refine run_culletlaw19_horner (by simp) ?_
  simp only [c_culletlaw19_horner, WS, List.getElem_cons_zero, List.getElem_cons_succ, Option.isNone_some, Option.isNone_none, List.getD_cons_zero, List.getD_cons_succ, I.at, atL, atO, atP, evp, evs, retV, ↓reduceIte, Nat.reduceEqDiff, reduceCtorEq]
  have e0 : IntKind.i64.wrap ((p.length : Int) - 1) = (p.length : Int) - 1 := wrap_id (by omega) (by omega)
  simp (maxSteps := 1000000) (disch := omega) only [WS, List.getElem_cons_zero, List.getElem_cons_succ, Option.isNone_some, Option.isNone_none, List.getD_cons_zero, List.getD_cons_succ, I.at, atL, atO, atP, evp, evs, retV, ↓reduceIte, Nat.reduceEqDiff, reduceCtorEq, AS, h.Xlen, e0]
  refine loop_of (fun t w' => t 0 = s ∧ t 1 = .int .u8 (x.v.toNat : Int) ∧ RowKit.Below w.heap.size w w' ∧ ∃ j : Nat, t 6 = .int .i64 ((j : Int) - 1) ∧ j ≤ p.length ∧ t 5 = .int .u8 ((evl (p.drop j) x).v.toNat : Int)) (fun t _ => (toI (t 6) + 1).toNat)
    ⟨by simp only [WS, List.getElem_cons_zero, List.getElem_cons_succ, Option.isNone_some, Option.isNone_none, List.getD_cons_zero, List.getD_cons_succ, I.at, atL, atO, atP, evp, evs, retV, ↓reduceIte, Nat.reduceEqDiff, reduceCtorEq], by simp only [WS, List.getElem_cons_zero, List.getElem_cons_succ, Option.isNone_some, Option.isNone_none, List.getD_cons_zero, List.getD_cons_succ, I.at, atL, atO, atP, evp, evs, retV, ↓reduceIte, Nat.reduceEqDiff, reduceCtorEq], RowKit.Below.refl _ _, p.length, by simp only [WS, List.getElem_cons_zero, List.getElem_cons_succ, Option.isNone_some, Option.isNone_none, List.getD_cons_zero, List.getD_cons_succ, I.at, atL, atO, atP, evp, evs, retV, ↓reduceIte, Nat.reduceEqDiff, reduceCtorEq], Nat.le_refl _, by rw [List.drop_length]; simp only [WS, List.getElem_cons_zero, List.getElem_cons_succ, Option.isNone_some, Option.isNone_none, List.getD_cons_zero, List.getD_cons_succ, I.at, atL, atO, atP, evp, evs, retV, ↓reduceIte, Nat.reduceEqDiff, reduceCtorEq]; rfl⟩ ?_
  rintro t w1 ⟨t0, t1, C, j, t6, hj, t5⟩
  rcases j with _ | j
  · simp (maxSteps := 1000000) (disch := omega) only [WS, List.getElem_cons_zero, List.getElem_cons_succ, Option.isNone_some, Option.isNone_none, List.getD_cons_zero, List.getD_cons_succ, I.at, atL, atO, atP, evp, evs, retV, ↓reduceIte, Nat.reduceEqDiff, reduceCtorEq, AS, t0, t1, t5, t6]
    rw [List.drop_zero]
    exact ⟨rfl, C⟩
  have hjl : j < p.length := by omega
  have e1 : ((j + 1 : Nat) : Int) - 1 = (j : Int) := by omega
  rw [e1] at t6
  have e2 : IntKind.i64.wrap ((j : Int) - 1) = (j : Int) - 1 := wrap_id (by omega) (by omega)
  have h := h.up C
  simp (maxSteps := 1000000) (disch := omega) only [WS, List.getElem_cons_zero, List.getElem_cons_succ, Option.isNone_some, Option.isNone_none, List.getD_cons_zero, List.getD_cons_succ, I.at, atL, atO, atP, evp, evs, retV, ↓reduceIte, Nat.reduceEqDiff, reduceCtorEq, AS, t0, t1, t5, t6]
  refine WP_dops ?_
  have B2 := bel_drew w1
  have C := C.trans (B2.mono C.size)
  have h := h.up B2
  have see : Fw.sees Try.prog (.ld (.c (elP s j))) w1.drew (.int .u8 (p[j].v.toNat : Int)) = True := h.sees hjl Try.prog
  simp (maxSteps := 1000000) (disch := omega) only [ES, List.mem_cons, List.not_mem_nil, implies_true, forall_const, WS, List.getElem_cons_zero, List.getElem_cons_succ, Option.isNone_some, Option.isNone_none, List.getD_cons_zero, List.getD_cons_succ, I.at, atL, atO, atP, evp, evs, retV, ↓reduceIte, Nat.reduceEqDiff, reduceCtorEq, AS, t0, t1, t5, t6]
  refine E_call0 ((gf8_Mul_spec w1.drew (evl (p.drop (j + 1)) x) x).mono ?_)
  rintro _ w2 ⟨rfl, rfl⟩
  have hx : bitsOp .xor .u8 ((evl (p.drop (j + 1)) x * x).v.toNat : Int) (p[j].v.toNat : Int) = ((evl (p.drop j) x).v.toNat : Int) := by
    rw [evl_drop x p hjl, xor8, El.add_comm, El.mul_comm]
  simp (maxSteps := 1000000) (disch := omega) only [ES, List.mem_cons, List.not_mem_nil, implies_true, forall_const, WS, List.getElem_cons_zero, List.getElem_cons_succ, Option.isNone_some, Option.isNone_none, List.getD_cons_zero, List.getD_cons_succ, I.at, atL, atO, atP, evp, evs, retV, ↓reduceIte, Nat.reduceEqDiff, reduceCtorEq, AS, t0, t1, t5, t6, h.Eix hjl, h.Eld hjl, cell_e8, see, hx, e2]
  exact ⟨⟨C, j, rfl, by omega, rfl⟩, by omega⟩
end Go.Proofs.Ytbaljbadlfopgaa.Fw

/- The document's product in GF(2^16): shift, add, reduce from the top; the even roots. Plain maths. -/
set_option linter.unusedVariables false
namespace Go.Fw
/-! Even roots. -/
end Go.Fw

/- The document's product in GF(2^8); powers as inverses. Plain maths. -/
set_option linter.unusedVariables false
namespace Go.Fw
/-! Squares of squares; their products. -/
section
variable {n : Nat} [F : Fd n]
def sqn (a : El n) : Nat → El n
  | 0 => a
  | k + 1 => sqn a k * sqn a k
def pin (a : El n) : Nat → El n
  | 0 => 1
  | k + 1 => pin a k * sqn a (k + 1)
end
theorem sqn8 (a : El 8) : ∀ k, sqn a k = ⟨bsqn r8 a.v k⟩
  | 0 => rfl
  | k + 1 => by show sqn a k * sqn a k = _; rw [sqn8 a k]; rfl
theorem pin8 (a : El 8) : ∀ k, pin a k = ⟨bin r8 a.v k⟩
  | 0 => rfl
  | k + 1 => by show pin a k * sqn a (k + 1) = _; rw [pin8 a k, sqn8]; rfl
theorem pin_inv8 (a : El 8) : pin a 7 = a.inv := pin8 a 7
end Go.Fw
