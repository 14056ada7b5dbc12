import Derived.Test.YtcdagkcchfibjaaGfPNil
set_option linter.all false
/- Derivatives, and the products of linear factors. Plain maths. -/
set_option linter.unusedVariables false
set_option linter.unusedSectionVars false
namespace Go.Fw
variable {n : Nat}
def Ps.e (p : Nat) (f : Ps n) : Ps n := ⟨fun k => if (k + p) % 2 = 1 then f.c k else 0⟩
variable [F : Fd n]
theorem Dg.D {f : Ps n} {d : Nat} (h : Dg f d) : Dg f.D d := fun i hi => by
  show (if i % 2 = 0 then f.c (i + 1) else 0) = 0
  rw [h (i + 1) (by omega)]; split <;> rfl
theorem Dg.one : Dg (1 : Ps n) 1 := fun i hi => by show (if i = 0 then (1 : El n) else 0) = 0; rw [if_neg (by omega)]
theorem ps_eq {f g : Ps n} (d : Nat) (hf : Dg f d) (hg : Dg g d) (h : ∀ i, i < d → f.c i = g.c i) : f = g := Ps.ext fun i => by
  by_cases hi : i < d
  · exact h i hi
  · rw [hf i (by omega), hg i (by omega)]
theorem tr_inj {p q : List (El n)} (hp : tr p = p) (hq : tr q = q) (h : co p = co q) : p = q := by rw [← hp, ← hq, tr_eq h]
end Go.Fw
