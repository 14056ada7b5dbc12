import Derived.Test.YtcbjabnnokjnpaaGfVM
import Derived.Test.YtcbjabnnokjnpaaGfPM
set_option linter.all false
/- Powers of two; an element by its four digits. Plain maths. -/
set_option linter.unusedVariables false
namespace Go.Fw
/-- The element of a number -/
def eN (n : Nat) : El 16 := ⟨BitVec.ofNat 16 n⟩
theorem badd_and (m : BitVec 16) : BAdd (fun a : BitVec 16 => a &&& m) := fun a b => by
  apply BitVec.eq_of_getLsbD_eq; intro i hi
  simp only [BitVec.getLsbD_and, BitVec.getLsbD_xor]
  cases a.getLsbD i <;> cases b.getLsbD i <;> cases m.getLsbD i <;> rfl
theorem badd_shl (k : Nat) : BAdd (fun a : BitVec 16 => a <<< k) := fun a b => BitVec.shiftLeft_xor_distrib a b k
theorem digits (x : BitVec 16) : (x &&& 15#16) ^^^ (((x >>> 4) &&& 15#16) <<< 4) ^^^ (((x >>> 8) &&& 15#16) <<< 8) ^^^ ((x >>> 12) <<< 12) = x :=
  BAdd.ext (f := fun x => (x &&& 15#16) ^^^ (((x >>> 4) &&& 15#16) <<< 4) ^^^ (((x >>> 8) &&& 15#16) <<< 8) ^^^ ((x >>> 12) <<< 12))
    (BAdd.xor (BAdd.xor (BAdd.xor (badd_and _) (BAdd.comp (badd_shl 4) (BAdd.comp (badd_and _) (badd_shr 16 4)))) (BAdd.comp (badd_shl 8) (BAdd.comp (badd_and _) (badd_shr 16 8)))) (BAdd.comp (badd_shl 12) (badd_shr 16 12))) badd_id (by decide +kernel) x
/-- What the table of the n-th digit holds at x. -/
def want (c : El 16) (n x : Nat) : El 16 := c * eN (x <<< (4 * n))
theorem co_app {n : Nat} [Fd n] (l r : List (El n)) (i : Nat) : (co (l ++ r)).c i = if i < l.length then (co l).c i else (co r).c (i - l.length) := by
  show (l ++ r).getD i 0 = if i < l.length then l.getD i 0 else r.getD (i - l.length) 0
  simp only [List.getD_eq_getElem?_getD]
  by_cases h : i < l.length
  · rw [if_pos h, List.getElem?_append_left h]
  · rw [if_neg h, List.getElem?_append_right (by omega)]
theorem co_drop {n : Nat} [Fd n] (l : List (El n)) (o i : Nat) : (co (l.drop o)).c i = (co l).c (o + i) := by
  show (l.drop o).getD i 0 = l.getD (o + i) 0
  simp only [List.getD_eq_getElem?_getD, List.getElem?_drop]
theorem co_takeL {n : Nat} [Fd n] (l : List (El n)) (o i : Nat) : (co (l.take o)).c i = if i < o then (co l).c i else 0 := by
  show (l.take o).getD i 0 = if i < o then l.getD i 0 else 0
  simp only [List.getD_eq_getElem?_getD, List.getElem?_take]
  split
  · rfl
  · rfl
end Go.Fw
