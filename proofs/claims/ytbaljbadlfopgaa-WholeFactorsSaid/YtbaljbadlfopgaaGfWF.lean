import Derived.Test.YtbaljbadlfopgaaSMrF
import Derived.Test.YtbaljbadlfopgaaGfPF
set_option linter.all false
/- Powers of two; an element by its four digits. Plain maths. -/
set_option linter.unusedVariables false
namespace Go.Fw
/-- The element of a number -/
def eN (n : Nat) : El 16 := ⟨BitVec.ofNat 16 n⟩
theorem badd_and (m : BitVec 16) : BAdd (fun a : BitVec 16 => a &&& m) := fun a b => by
  apply BitVec.eq_of_getLsbD_eq; intro i hi
  simp only [BitVec.getLsbD_and, BitVec.getLsbD_xor]
  cases a.getLsbD i <;> cases b.getLsbD i <;> cases m.getLsbD i <;> rfl
theorem badd_shl (k : Nat) : BAdd (fun a : BitVec 16 => a <<< k) := fun a b => BitVec.shiftLeft_xor_distrib a b k
theorem digits (x : BitVec 16) : (x &&& 15#16) ^^^ (((x >>> 4) &&& 15#16) <<< 4) ^^^ (((x >>> 8) &&& 15#16) <<< 8) ^^^ ((x >>> 12) <<< 12) = x :=
  BAdd.ext (f := fun x => (x &&& 15#16) ^^^ (((x >>> 4) &&& 15#16) <<< 4) ^^^ (((x >>> 8) &&& 15#16) <<< 8) ^^^ ((x >>> 12) <<< 12))
    (BAdd.xor (BAdd.xor (BAdd.xor (badd_and _) (BAdd.comp (badd_shl 4) (BAdd.comp (badd_and _) (badd_shr 16 4)))) (BAdd.comp (badd_shl 8) (BAdd.comp (badd_and _) (badd_shr 16 8)))) (BAdd.comp (badd_shl 12) (badd_shr 16 12))) badd_id (by decide +kernel) x
/-- What the table of the n-th digit holds at x. -/
def want (c : El 16) (n x : Nat) : El 16 := c * eN (x <<< (4 * n))
end Go.Fw
