import Derived.Test.YtcdagkcchfibjaaGreatGfLP
import Derived.Test.YtcdagkcchfibjaaGreatSZgP
set_option linter.all false
/- The polynomials s_i and X_j in powers of x. Plain maths. -/
set_option linter.unusedVariables false
namespace Go.Fw
end Go.Fw

/- Lists in the basis X_j as polynomials; the derivative in that basis; s_i as a product over its zeros. Plain maths. -/
set_option linter.unusedVariables false
namespace Go.Fw
/-! The derivative. -/
theorem tln_dg_le {n : Nat} [Fd n] {l : List (El n)} {d : Nat} (h : Dg (co l) d) : tln l ≤ d := by
  rcases Nat.lt_or_ge d (tln l) with hlt | hge
  · exact absurd (h (tln l - 1) (by omega)) (tln_top l (tln l - 1) (by omega))
  · exact hge
end Go.Fw

/- The document's product in GF(2^16): shift, add, reduce from the top; the even roots. Plain maths. -/
set_option linter.unusedVariables false
namespace Go.Fw
def red1 (p : BitVec 32) (i : Nat) : BitVec 32 := p ^^^ sel (p.getLsbD i) (0x1002d#32 <<< (i - 16))
def redN : Nat → BitVec 32 → BitVec 32
  | 0, p => p
  | m + 1, p => redN m (red1 p (16 + m))
def red (p : BitVec 32) : BitVec 16 := (redN 15 p).setWidth 16
theorem badd_red1 (i : Nat) : BAdd (fun p => red1 p i) := fun a b => by
  show (a ^^^ b) ^^^ sel ((a ^^^ b).getLsbD i) (0x1002d#32 <<< (i - 16)) = (a ^^^ sel (a.getLsbD i) (0x1002d#32 <<< (i - 16))) ^^^ (b ^^^ sel (b.getLsbD i) (0x1002d#32 <<< (i - 16)))
  rw [BitVec.getLsbD_xor, sel_bxor]
  ac_rfl
theorem badd_redN : ∀ m, BAdd (redN m)
  | 0 => fun _ _ => rfl
  | m + 1 => fun a b => by
    show redN m (red1 (a ^^^ b) (16 + m)) = redN m (red1 a (16 + m)) ^^^ redN m (red1 b (16 + m))
    rw [show red1 (a ^^^ b) (16 + m) = red1 a (16 + m) ^^^ red1 b (16 + m) from badd_red1 (16 + m) a b, badd_redN m]
theorem badd_red : BAdd red := fun a b => by
  unfold red
  rw [badd_redN 15 a b, BitVec.setWidth_xor]
def mulP (a b : BitVec 16) (n : Nat) : BitVec 32 := bsum (fun t => sel (b.getLsbD t) (a.setWidth 32 <<< t)) n
theorem badd_sh (i : Nat) : BAdd (fun a : BitVec 16 => a.setWidth 32 <<< i) := fun a b => by
  show (a ^^^ b).setWidth 32 <<< i = _
  rw [BitVec.setWidth_xor, BitVec.shiftLeft_xor_distrib]
theorem badd_pw (i : Nat) : BAdd (fun a : BitVec 16 => pw r16 a i) := fun a b => pw_xor r16 a b i
theorem mul_red (a b : BitVec 16) : red (mulP a b 16) = bmul r16 a b := by
  unfold mulP bmul
  rw [BAdd.sum badd_red]
  refine bsum_congr 16 fun i hi => ?_
  rw [BAdd.sel badd_red]
  congr 1
  have key : ∀ i < 16, ∀ t < 16, red ((be 16 t).setWidth 32 <<< i) = pw r16 (be 16 t) i := by decide +kernel
  exact BAdd.ext (f := fun a => red (a.setWidth 32 <<< i)) (g := fun a => pw r16 a i) (BAdd.comp badd_red (badd_sh i)) (badd_pw i) (key i hi) a
/-! Even roots. -/
end Go.Fw
