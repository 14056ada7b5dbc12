import Derived.Test.YtbaljbadlfopgaaGfRL
set_option linter.all false
/- Polynomials among the series; divisors. Plain maths. -/
set_option linter.unusedVariables false
set_option linter.unusedSectionVars false
namespace Go.Fw
variable {n : Nat} [F : Fd n]
/-- A polynomial. -/
def Pol (f : Ps n) : Prop := ∃ l : List (El n), co l = f
theorem Pol.of (l : List (El n)) : Pol (co l) := ⟨l, rfl⟩
theorem Pol.dg {f : Ps n} {d : Nat} (h : Dg f d) : Pol f := ⟨ofc d f, ofc_co h⟩
theorem Pol.bound {f : Ps n} (h : Pol f) : ∃ d, Dg f d := by obtain ⟨l, rfl⟩ := h; exact ⟨_, co_dg l⟩
theorem Pol.add {f g : Ps n} (hf : Pol f) (hg : Pol g) : Pol (f + g) := by
  obtain ⟨a, ha⟩ := hf.bound
  obtain ⟨b, hb⟩ := hg.bound
  exact Pol.dg (d := a + b) ((ha.mono (by omega)).add (hb.mono (by omega)))
theorem Pol.mul {f g : Ps n} (hf : Pol f) (hg : Pol g) : Pol (f * g) := by
  obtain ⟨a, ha⟩ := hf.bound
  obtain ⟨b, hb⟩ := hg.bound
  exact Pol.dg (ha.mul hb)
theorem Pol.zero : Pol (0 : Ps n) := ⟨[], rfl⟩
theorem Pol.one : Pol (1 : Ps n) := Pol.dg Dg.one
theorem Pol.C (a : El n) : Pol (Ps.C a) := Pol.dg (d := 1) fun i hi => by show (if i = 0 then a else 0) = 0; rw [if_neg (by omega)]
/-- d divides f. -/
def Dv (d f : Ps n) : Prop := ∃ q, Pol q ∧ f = q * d
theorem Dv.refl (d : Ps n) : Dv d d := ⟨1, Pol.one, (Ps.one_mul d).symm⟩
theorem Dv.zero (d : Ps n) : Dv d 0 := ⟨0, Pol.zero, (Ps.zero_mul d).symm⟩
theorem Dv.add {d f g : Ps n} (hf : Dv d f) (hg : Dv d g) : Dv d (f + g) := by
  obtain ⟨a, ha, rfl⟩ := hf
  obtain ⟨b, hb, rfl⟩ := hg
  exact ⟨a + b, ha.add hb, (Ps.add_mul a b d).symm⟩
theorem Dv.mul {d f : Ps n} (hf : Dv d f) {c : Ps n} (hc : Pol c) : Dv d (c * f) := by
  obtain ⟨a, ha, rfl⟩ := hf
  exact ⟨c * a, hc.mul ha, (Ps.mul_assoc c a d).symm⟩
theorem Dv.trans {d e f : Ps n} (h1 : Dv d e) (h2 : Dv e f) : Dv d f := by
  obtain ⟨b, hb, rfl⟩ := h2
  exact h1.mul hb
end Go.Fw
