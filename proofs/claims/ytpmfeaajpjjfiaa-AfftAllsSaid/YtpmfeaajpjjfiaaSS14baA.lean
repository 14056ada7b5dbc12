import Derived.Test.YtpmfeaajpjjfiaaGfNA
import Derived.Test.YtpmfeaajpjjfiaaProg
import Derived.Test.YtpmfeaajpjjfiaaFwTA
import Derived.Test.YtpmfeaajpjjfiaaSS14rA
set_option linter.all false
/- The document's product in GF(2^16): shift, add, reduce from the top; the even roots. Plain maths. -/
set_option linter.unusedVariables false
namespace Go.Fw
def red1 (p : BitVec 32) (i : Nat) : BitVec 32 := p ^^^ sel (p.getLsbD i) (0x1002d#32 <<< (i - 16))
def redN : Nat → BitVec 32 → BitVec 32
  | 0, p => p
  | m + 1, p => redN m (red1 p (16 + m))
def red (p : BitVec 32) : BitVec 16 := (redN 15 p).setWidth 16
theorem badd_red1 (i : Nat) : BAdd (fun p => red1 p i) := fun a b => by
  show (a ^^^ b) ^^^ sel ((a ^^^ b).getLsbD i) (0x1002d#32 <<< (i - 16)) = (a ^^^ sel (a.getLsbD i) (0x1002d#32 <<< (i - 16))) ^^^ (b ^^^ sel (b.getLsbD i) (0x1002d#32 <<< (i - 16)))
  rw [BitVec.getLsbD_xor, sel_bxor]
  ac_rfl
theorem badd_redN : ∀ m, BAdd (redN m)
  | 0 => fun _ _ => rfl
  | m + 1 => fun a b => by
    show redN m (red1 (a ^^^ b) (16 + m)) = redN m (red1 a (16 + m)) ^^^ redN m (red1 b (16 + m))
    rw [show red1 (a ^^^ b) (16 + m) = red1 a (16 + m) ^^^ red1 b (16 + m) from badd_red1 (16 + m) a b, badd_redN m]
theorem badd_red : BAdd red := fun a b => by
  unfold red
  rw [badd_redN 15 a b, BitVec.setWidth_xor]
def mulP (a b : BitVec 16) (n : Nat) : BitVec 32 := bsum (fun t => sel (b.getLsbD t) (a.setWidth 32 <<< t)) n
theorem badd_sh (i : Nat) : BAdd (fun a : BitVec 16 => a.setWidth 32 <<< i) := fun a b => by
  show (a ^^^ b).setWidth 32 <<< i = _
  rw [BitVec.setWidth_xor, BitVec.shiftLeft_xor_distrib]
theorem badd_pw (i : Nat) : BAdd (fun a : BitVec 16 => pw r16 a i) := fun a b => pw_xor r16 a b i
theorem mul_red (a b : BitVec 16) : red (mulP a b 16) = bmul r16 a b := by
  unfold mulP bmul
  rw [BAdd.sum badd_red]
  refine bsum_congr 16 fun i hi => ?_
  rw [BAdd.sel badd_red]
  congr 1
  have key : ∀ i < 16, ∀ t < 16, red ((be 16 t).setWidth 32 <<< i) = pw r16 (be 16 t) i := by decide +kernel
  exact BAdd.ext (f := fun a => red (a.setWidth 32 <<< i)) (g := fun a => pw r16 a i) (BAdd.comp badd_red (badd_sh i)) (badd_pw i) (key i hi) a
/-! Even roots. -/
def imgI : Nat → List (El 16) × List (El 16) → El 16 → El 16 → List (El 16) × List (El 16)
  | 0, s, _, _ => s
  | h + 1, s, v, y => if v.v.getLsbD h then (if s.1.getD h 0 = 0 then (s.1.set h v, s.2.set h y) else imgI h s (v + s.1.getD h 0) (y + s.2.getD h 0)) else imgI h s v y
def imgs : Nat → List (El 16) × List (El 16) → List (El 16) × List (El 16)
  | 0, s => s
  | m + 1, s => imgs m (imgI 16 s (⟨be 16 (15 - m)⟩ * ⟨be 16 (15 - m)⟩ + ⟨be 16 (15 - m)⟩) ⟨be 16 (15 - m)⟩)
def imgZ : List (El 16) × List (El 16) := imgs 15 (List.replicate 16 0, List.replicate 16 0)
def rootI : Nat → List (El 16) × List (El 16) → El 16 → El 16 → Option (El 16)
  | 0, _, _, r => some r
  | h + 1, s, a, r => if a.v.getLsbD h then (if s.1.getD h 0 = 0 then none else rootI h s (a + s.1.getD h 0) (r + s.2.getD h 0)) else rootI h s a r
theorem rootI_cbs : ∀ i < 15, rootI 16 imgZ ⟨cbs.getD i 0⟩ 0 = some ⟨cbs.getD (i + 1) 0⟩ := by decide +kernel
end Go.Fw

set_option linter.unusedVariables false
set_option linter.unusedSimpArgs false
set_option maxRecDepth 100000
set_option maxHeartbeats 1000000
namespace Go.Proofs.Ytpmfeaajpjjfiaa.Fw
open Go Go.Fw Go.Proofs
attribute [local irreducible] stepI
def c_culletref03_Mul : C := .seq (.ops [⟨0, (some 4), none, .mov (.c (.int .u16 0)), []⟩]) (.seq (.ops [⟨0, (some 5), none, .mov (.c (.int .u32 0)), []⟩]) (.seq (.seq (.ops [⟨0, (some 6), none, .mov (.c (.int .i64 0)), []⟩]) (.block 0 (.loop (.seq (.seq (.ops [⟨0, (some 8), none, .mov (.t 6), []⟩, ⟨1, (some 9), none, .bin .lss (.t 8) (.c (.int .i64 16)), []⟩]) (.ite (.t 9) .skip (.exit 0))) (.seq (.block 1 (.seq (.ops [⟨0, (some 12), none, .mov (.t 1), []⟩, ⟨1, (some 13), none, .mov (.t 6), []⟩, ⟨2, (some 14), none, .cnv .u64 (.t 13), []⟩, ⟨3, (some 15), none, .bin .shr (.t 12) (.t 14), []⟩, ⟨4, (some 16), none, .bin .and (.t 15) (.c (.int .u16 1)), []⟩, ⟨5, (some 17), none, .bin .eql (.t 16) (.c (.int .u16 1)), []⟩]) (.ite (.t 17) (.ops [⟨0, (some 18), none, .mov (.t 5), []⟩, ⟨1, (some 19), none, .mov (.t 0), []⟩, ⟨2, (some 20), none, .cnv .u32 (.t 19), []⟩, ⟨3, (some 21), none, .mov (.t 6), []⟩, ⟨4, (some 22), none, .cnv .u64 (.t 21), []⟩, ⟨5, (some 23), none, .bin .shl (.t 20) (.t 22), []⟩, ⟨6, (some 24), none, .bin .xor (.t 18) (.t 23), []⟩, ⟨7, (some 5), none, .mov (.t 24), []⟩]) .skip))) (.ops [⟨0, (some 10), none, .mov (.t 6), []⟩, ⟨1, (some 11), none, .bin .add (.t 10) (.c (.int .i64 1)), []⟩, ⟨2, (some 6), none, .mov (.t 11), []⟩])))))) (.seq (.seq (.ops [⟨0, (some 7), none, .mov (.c (.int .i64 30)), []⟩]) (.block 2 (.loop (.seq (.seq (.ops [⟨0, (some 25), none, .mov (.t 7), []⟩, ⟨1, (some 26), none, .bin .geq (.t 25) (.c (.int .i64 16)), []⟩]) (.ite (.t 26) .skip (.exit 2))) (.seq (.block 3 (.seq (.ops [⟨0, (some 29), none, .mov (.t 5), []⟩, ⟨1, (some 30), none, .mov (.t 7), []⟩, ⟨2, (some 31), none, .cnv .u64 (.t 30), []⟩, ⟨3, (some 32), none, .bin .shr (.t 29) (.t 31), []⟩, ⟨4, (some 33), none, .bin .and (.t 32) (.c (.int .u32 1)), []⟩, ⟨5, (some 34), none, .bin .eql (.t 33) (.c (.int .u32 1)), []⟩]) (.ite (.t 34) (.ops [⟨0, (some 35), none, .mov (.t 5), []⟩, ⟨1, (some 36), none, .mov (.t 7), []⟩, ⟨2, (some 37), none, .bin .sub (.t 36) (.c (.int .i64 16)), []⟩, ⟨3, (some 38), none, .cnv .u64 (.t 37), []⟩, ⟨4, (some 39), none, .bin .shl (.c (.int .u32 65581)) (.t 38), []⟩, ⟨5, (some 40), none, .bin .xor (.t 35) (.t 39), []⟩, ⟨6, (some 5), none, .mov (.t 40), []⟩]) .skip))) (.ops [⟨0, (some 27), none, .mov (.t 7), []⟩, ⟨1, (some 28), none, .bin .sub (.t 27) (.c (.int .i64 1)), []⟩, ⟨2, (some 7), none, .mov (.t 28), []⟩])))))) (.seq (.ops [⟨0, (some 41), none, .mov (.t 5), []⟩, ⟨1, (some 42), none, .cnv .u16 (.t 41), []⟩, ⟨2, (some 4), none, .mov (.t 42), []⟩]) .ret))))
attribute [irreducible] c_culletref03_Mul
theorem run_culletref03_Mul {args : List Value} {w : World} {K : Value → World → Prop} (hn : args.length ≤ 43) (h : WP Try.prog c_culletref03_Mul (endQ [.t 4] K) (initT args) w) : CallV Try.prog 80 args w K :=
  call_of follows Try.func80 (by kernel_rfl) (by kernel_rfl) hn h
end Go.Proofs.Ytpmfeaajpjjfiaa.Fw
namespace Go.Proofs.Ytpmfeaajpjjfiaa.Fw
open Go Go.Fw
theorem bit_u16 (a : BitVec 16) (n : Nat) (hn : n ≤ 16) : bitsOp .and .u16 (shrV .u16 (a.toNat : Int) (n : Int)) 1 = (if a.getLsbD n then 1 else 0 : Int) := by
  rw [shr_nat .u16 a.toNat n hn]
  have h1 : a.toNat >>> n ≤ a.toNat := by rw [Nat.shiftRight_eq_div_pow]; exact Nat.div_le_self _ _
  have hlt := a.isLt
  have := bits_and fits_u16 (a := a.toNat >>> n) (b := 1) (by omega) (by decide)
  rw [and_one_shr] at this
  refine this.trans ?_
  show _ = if a.toNat.testBit n = true then (1 : Int) else 0
  split <;> rfl
theorem bit_u32 (a : BitVec 32) (n : Nat) (hn : n ≤ 32) : bitsOp .and .u32 (shrV .u32 (a.toNat : Int) (n : Int)) 1 = (if a.getLsbD n then 1 else 0 : Int) := by
  rw [shr_nat .u32 a.toNat n hn]
  have h1 : a.toNat >>> n ≤ a.toNat := by rw [Nat.shiftRight_eq_div_pow]; exact Nat.div_le_self _ _
  have hlt := a.isLt
  have := bits_and fits_u32 (a := a.toNat >>> n) (b := 1) (by omega) (by decide)
  rw [and_one_shr] at this
  refine this.trans ?_
  show _ = if a.toNat.testBit n = true then (1 : Int) else 0
  split <;> rfl
theorem culletref03_Mul_spec (w : World) (a b : El 16) : CallV Try.prog 80 [.int .u16 (a.v.toNat : Int), .int .u16 (b.v.toNat : Int)] w fun v w' => v = .int .u16 ((a * b).v.toNat : Int) ∧ w' = w := by
  have ha := a.v.isLt
  refine run_culletref03_Mul (by simp) ?_
  simp only [c_culletref03_Mul, WS, List.getElem_cons_zero, List.getElem_cons_succ, Option.isNone_some, Option.isNone_none, List.getD_cons_zero, List.getD_cons_succ, I.at, atL, atO, atP, evp, evs, retV, ↓reduceIte, Nat.reduceEqDiff, reduceCtorEq]
  refine loop_of (fun t w' => w' = w ∧ t 0 = .int .u16 (a.v.toNat : Int) ∧ t 1 = .int .u16 (b.v.toNat : Int) ∧ ∃ i : Nat, t 6 = .int .i64 (i : Int) ∧ i ≤ 16 ∧ t 5 = .int .u32 ((mulP a.v b.v i).toNat : Int)) (fun t _ => 16 - (toI (t 6)).toNat) ⟨rfl, by simp only [WS, List.getElem_cons_zero, List.getElem_cons_succ, Option.isNone_some, Option.isNone_none, List.getD_cons_zero, List.getD_cons_succ, I.at, atL, atO, atP, evp, evs, retV, ↓reduceIte, Nat.reduceEqDiff, reduceCtorEq], by simp only [WS, List.getElem_cons_zero, List.getElem_cons_succ, Option.isNone_some, Option.isNone_none, List.getD_cons_zero, List.getD_cons_succ, I.at, atL, atO, atP, evp, evs, retV, ↓reduceIte, Nat.reduceEqDiff, reduceCtorEq], 0, rfl, by omega, rfl⟩ ?_
  rintro t w' ⟨rfl, t0, t1, i, t6, hi, t5⟩
  by_cases hlt : i < 16
  · have e1 : IntKind.u64.wrap (i : Int) = (i : Int) := wrap_u64 i (by omega)
    have e2 := bit_u16 b.v i (by omega)
    have hnn : ((0 : Int) ≤ (i : Int)) = True := eq_true (by omega)
    by_cases hb : b.v.getLsbD i = true
    · rw [if_pos hb] at e2
      have e3 : IntKind.u32.wrap (a.v.toNat : Int) = (a.v.toNat : Int) := wrap_u32 _ (by omega)
      have hs : a.v.toNat <<< i < 2 ^ 32 := by
        rw [Nat.shiftLeft_eq]
        have : 2 ^ i ≤ 2 ^ 15 := Nat.pow_le_pow_right (by omega) (by omega)
        exact Nat.lt_of_le_of_lt (Nat.mul_le_mul (Nat.le_of_lt ha) this) (by decide)
      have e4 : shlV .u32 (a.v.toNat : Int) (i : Int) = ((a.v.setWidth 32 <<< i).toNat : Int) := by
        rw [shl_nat fits_u32 a.v.toNat i (by show i ≤ 32; omega) (by rw [← Nat.shiftLeft_eq]; exact hs), BitVec.toNat_shiftLeft, BitVec.toNat_setWidth, Nat.mod_eq_of_lt (show a.v.toNat < 2 ^ 32 by omega), Nat.mod_eq_of_lt hs]
      have e5 : bitsOp .xor .u32 ((mulP a.v b.v i).toNat : Int) ((a.v.setWidth 32 <<< i).toNat : Int) = ((mulP a.v b.v (i + 1)).toNat : Int) := by
        rw [bits_xor fits_u32 (BitVec.isLt _) (BitVec.isLt _), ← BitVec.toNat_xor]
        show _ = ((bsum _ i ^^^ sel (b.v.getLsbD i) _ : BitVec 32).toNat : Int)
        rw [hb]; rfl
      simp (maxSteps := 1000000) (disch := omega) only [WS, List.getElem_cons_zero, List.getElem_cons_succ, Option.isNone_some, Option.isNone_none, List.getD_cons_zero, List.getD_cons_succ, I.at, atL, atO, atP, evp, evs, retV, ↓reduceIte, Nat.reduceEqDiff, reduceCtorEq, AS, t0, t1, t5, t6, e1, X_shr, X_shl, hnn, e2, show decide ((1 : Int) = 1) = true from rfl, e3, e4, e5]
      exact ⟨⟨i + 1, rfl, by omega, rfl⟩, by omega⟩
    · rw [if_neg hb] at e2
      simp (maxSteps := 1000000) (disch := omega) only [WS, List.getElem_cons_zero, List.getElem_cons_succ, Option.isNone_some, Option.isNone_none, List.getD_cons_zero, List.getD_cons_succ, I.at, atL, atO, atP, evp, evs, retV, ↓reduceIte, Nat.reduceEqDiff, reduceCtorEq, AS, t0, t1, t5, t6, e1, X_shr, X_shl, hnn, e2, show decide ((0 : Int) = 1) = false from rfl]
      refine ⟨⟨i + 1, rfl, by omega, ?_⟩, by omega⟩
      show _ = Value.int .u32 ((bsum _ i ^^^ sel (b.v.getLsbD i) _ : BitVec 32).toNat : Int)
      rw [Bool.eq_false_iff.2 hb]
      show _ = Value.int .u32 ((bsum _ i ^^^ 0#32 : BitVec 32).toNat : Int)
      rw [BitVec.xor_zero]; rfl
  obtain rfl : i = 16 := by omega
  simp (maxSteps := 1000000) (disch := omega) only [WS, List.getElem_cons_zero, List.getElem_cons_succ, Option.isNone_some, Option.isNone_none, List.getD_cons_zero, List.getD_cons_succ, I.at, atL, atO, atP, evp, evs, retV, ↓reduceIte, Nat.reduceEqDiff, reduceCtorEq, AS, t0, t1, t5, t6, show decide (((16 : Nat) : Int) < 16) = false from rfl]
  refine loop_of (fun t w2 => w2 = w' ∧ ∃ (m : Nat) (p : BitVec 32), t 7 = .int .i64 (((m + 15 : Nat) : Int)) ∧ m ≤ 15 ∧ t 5 = .int .u32 (p.toNat : Int) ∧ redN m p = redN 15 (mulP a.v b.v 16)) (fun t _ => (toI (t 7)).toNat) ⟨rfl, 15, _, rfl, by omega, by simp only [WS, List.getElem_cons_zero, List.getElem_cons_succ, Option.isNone_some, Option.isNone_none, List.getD_cons_zero, List.getD_cons_succ, I.at, atL, atO, atP, evp, evs, retV, ↓reduceIte, Nat.reduceEqDiff, reduceCtorEq]; exact t5, rfl⟩ ?_
  clear t0 t1 t5 t6
  rintro t w2 ⟨rfl, m, p, t7, hm, t5, hr⟩
  cases m with
  | zero =>
    have e1 : IntKind.u16.wrap (p.toNat : Int) = ((a * b).v.toNat : Int) := by
      rw [wrap_u16m]
      show _ = (((bmul r16 a.v b.v).toNat : Nat) : Int)
      rw [← mul_red]
      unfold red
      rw [← hr]
      show ((p.toNat % 65536 : Nat) : Int) = ((p.setWidth 16).toNat : Int)
      rw [BitVec.toNat_setWidth]
    simp (maxSteps := 1000000) (disch := omega) only [WS, List.getElem_cons_zero, List.getElem_cons_succ, Option.isNone_some, Option.isNone_none, List.getD_cons_zero, List.getD_cons_succ, I.at, atL, atO, atP, evp, evs, retV, ↓reduceIte, Nat.reduceEqDiff, reduceCtorEq, AS, t5, t7, show decide ((16 : Int) ≤ ((0 + 15 : Nat) : Int)) = false from rfl, e1]
  | succ m =>
    have e7 : ((m + 1 + 15 : Nat) : Int) = ((16 + m : Nat) : Int) := by omega
    rw [e7] at t7
    have e1 : IntKind.u64.wrap ((16 + m : Nat) : Int) = ((16 + m : Nat) : Int) := wrap_u64 _ (by omega)
    have e2 := bit_u32 p (16 + m) (by omega)
    have hnn : ((0 : Int) ≤ ((16 + m : Nat) : Int)) = True := eq_true (by omega)
    have hnm : ((0 : Int) ≤ (m : Int)) = True := eq_true (by omega)
    have e6 : IntKind.i64.wrap (((16 + m : Nat) : Int) - 1) = ((m + 15 : Nat) : Int) := by rw [wrap_id (by omega) (by omega)]; omega
    have e8 : IntKind.i64.wrap (((16 + m : Nat) : Int) - 16) = (m : Int) := by rw [wrap_id (by omega) (by omega)]; omega
    have e9 : IntKind.u64.wrap (m : Int) = (m : Int) := wrap_u64 _ (by omega)
    have d16 : decide ((16 : Int) ≤ ((16 + m : Nat) : Int)) = true := decide_eq_true (by omega)
    by_cases hb : p.getLsbD (16 + m) = true
    · rw [if_pos hb] at e2
      have hs : 65581 <<< m < 2 ^ 32 := by
        rw [Nat.shiftLeft_eq]
        have : 2 ^ m ≤ 2 ^ 14 := Nat.pow_le_pow_right (by omega) (by omega)
        exact Nat.lt_of_le_of_lt (Nat.mul_le_mul (Nat.le_refl 65581) this) (by decide)
      have e4 : shlV .u32 65581 (m : Int) = ((0x1002d#32 <<< m).toNat : Int) := by
        rw [show (65581 : Int) = ((65581 : Nat) : Int) from rfl, shl_nat fits_u32 65581 m (by show m ≤ 32; omega) (by rw [← Nat.shiftLeft_eq]; exact hs), BitVec.toNat_shiftLeft]
        rw [show (0x1002d#32).toNat = 65581 from rfl, Nat.mod_eq_of_lt hs]
      have e5 : bitsOp .xor .u32 (p.toNat : Int) ((0x1002d#32 <<< m).toNat : Int) = ((red1 p (16 + m)).toNat : Int) := by
        rw [bits_xor fits_u32 (BitVec.isLt _) (BitVec.isLt _), ← BitVec.toNat_xor]
        unfold red1
        rw [hb, Nat.add_sub_cancel_left]; rfl
      simp (maxSteps := 1000000) only [WS, List.getElem_cons_zero, List.getElem_cons_succ, Option.isNone_some, Option.isNone_none, List.getD_cons_zero, List.getD_cons_succ, I.at, atL, atO, atP, evp, evs, retV, ↓reduceIte, Nat.reduceEqDiff, reduceCtorEq, t5, t7, e1, d16, X_shr, X_shl, hnn, hnm, e2, show decide ((1 : Int) = 1) = true from rfl, e4, e5, e6, e8, e9, toI_int]
      exact ⟨⟨m, _, rfl, by omega, rfl, hr⟩, by omega⟩
    · rw [if_neg hb] at e2
      simp (maxSteps := 1000000) only [WS, List.getElem_cons_zero, List.getElem_cons_succ, Option.isNone_some, Option.isNone_none, List.getD_cons_zero, List.getD_cons_succ, I.at, atL, atO, atP, evp, evs, retV, ↓reduceIte, Nat.reduceEqDiff, reduceCtorEq, t5, t7, e1, d16, X_shr, X_shl, hnn, hnm, e2, show decide ((0 : Int) = 1) = false from rfl, e6, e8, e9, toI_int]
      refine ⟨⟨m, p, rfl, by omega, rfl, ?_⟩, by omega⟩
      rw [← hr]
      show redN m p = redN m (red1 p (16 + m))
      unfold red1
      rw [Bool.eq_false_iff.2 hb]
      show redN m p = redN m (p ^^^ 0#32)
      rw [BitVec.xor_zero]
end Go.Proofs.Ytpmfeaajpjjfiaa.Fw
