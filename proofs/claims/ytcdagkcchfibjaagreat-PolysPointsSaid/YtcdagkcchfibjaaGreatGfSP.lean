import Derived.Test.YtcdagkcchfibjaaGreatProg
import Derived.Test.YtcdagkcchfibjaaGreatFwTP
import Derived.Test.YtcdagkcchfibjaaGreatSZwP
import Derived.Test.YtcdagkcchfibjaaGreatSZgP
set_option linter.all false
set_option linter.unusedVariables false
set_option linter.unusedSimpArgs false
set_option maxRecDepth 100000
set_option maxHeartbeats 1000000
namespace Go.Proofs.YtcdagkcchfibjaaGreat.Fw
open Go Go.Fw Go.Proofs
attribute [local irreducible] stepI
end Go.Proofs.YtcdagkcchfibjaaGreat.Fw
namespace Go.Proofs.YtcdagkcchfibjaaGreat.Fw
open Go Go.Fw
end Go.Proofs.YtcdagkcchfibjaaGreat.Fw

namespace Go.Proofs.YtcdagkcchfibjaaGreat.Fw
open Go Go.Fw
end Go.Proofs.YtcdagkcchfibjaaGreat.Fw

namespace Go.Proofs.YtcdagkcchfibjaaGreat.Fw
open Go Go.Fw
end Go.Proofs.YtcdagkcchfibjaaGreat.Fw

/- Remainders by a linear factor. Plain maths. -/
set_option linter.unusedVariables false
set_option linter.unusedSectionVars false
namespace Go.Fw
variable {n : Nat} [F : Fd n]
theorem root_rem {Q q m : List (El n)} {x : El n} (h : co Q = co q * lin x + co m) : evl Q x = evl m x := by
  have hl := (co_dg q).lin_mul x
  have hN : Q.length + q.length + m.length + 1 = Q.length + q.length + m.length + 1 := rfl
  generalize hn : Q.length + q.length + m.length + 1 = N at hN
  rw [evl_co, evl_co, evn_eq (x := x) (co_dg Q) ((co_dg Q).mono (show Q.length ≤ N by omega)), h, evn_add, Ps.mul_comm, evn_eq (x := x) (hl.mono (show q.length + 1 ≤ N by omega)) hl, ev_lin_mul x x (co_dg q), El.add_self, El.zero_mul, El.zero_add]
  exact evn_eq ((co_dg m).mono (show m.length ≤ N by omega)) (co_dg m)
theorem rem_list {m : List (El n)} (ht : tr m = m) (hl : m.length < 2) (x : El n) : m = if evl m x = 0 then [] else [evl m x] := by
  match m, hl with
  | [], _ =>
    have e : evl ([] : List (El n)) x = 0 := rfl
    rw [if_pos e]
  | [a], _ =>
    have ev : evl [a] x = a := by show a + x * 0 = a; rw [El.mul_zero, El.add_zero]
    rw [ev]
    by_cases ha : a = 0
    · subst ha
      have : tr [(0 : El n)] = [] := by unfold tr; simp [tln]
      rw [this] at ht
      exact absurd ht (by simp)
    · rw [if_neg ha]
theorem co_lin (x : El n) : co [x, 1] = lin x := Ps.ext fun k => by
  rcases k with _ | _ | k
  · rfl
  · rfl
  · rfl
theorem tln_lin (x : El n) : tln [x, 1] = 2 := by simp [tln, El.one_ne]
end Go.Fw

/- Polynomials among the series; divisors. Plain maths. -/
set_option linter.unusedVariables false
set_option linter.unusedSectionVars false
namespace Go.Fw
variable {n : Nat} [F : Fd n]
/-- A polynomial. -/
def Pol (f : Ps n) : Prop := ∃ l : List (El n), co l = f
theorem Pol.of (l : List (El n)) : Pol (co l) := ⟨l, rfl⟩
theorem Pol.dg {f : Ps n} {d : Nat} (h : Dg f d) : Pol f := ⟨ofc d f, ofc_co h⟩
theorem Pol.bound {f : Ps n} (h : Pol f) : ∃ d, Dg f d := by obtain ⟨l, rfl⟩ := h; exact ⟨_, co_dg l⟩
theorem Pol.add {f g : Ps n} (hf : Pol f) (hg : Pol g) : Pol (f + g) := by
  obtain ⟨a, ha⟩ := hf.bound
  obtain ⟨b, hb⟩ := hg.bound
  exact Pol.dg (d := a + b) ((ha.mono (by omega)).add (hb.mono (by omega)))
theorem Pol.mul {f g : Ps n} (hf : Pol f) (hg : Pol g) : Pol (f * g) := by
  obtain ⟨a, ha⟩ := hf.bound
  obtain ⟨b, hb⟩ := hg.bound
  exact Pol.dg (ha.mul hb)
theorem Pol.zero : Pol (0 : Ps n) := ⟨[], rfl⟩
theorem Pol.one : Pol (1 : Ps n) := Pol.dg Dg.one
theorem Pol.C (a : El n) : Pol (Ps.C a) := Pol.dg (d := 1) fun i hi => by show (if i = 0 then a else 0) = 0; rw [if_neg (by omega)]
/-- d divides f. -/
def Dv (d f : Ps n) : Prop := ∃ q, Pol q ∧ f = q * d
theorem Dv.refl (d : Ps n) : Dv d d := ⟨1, Pol.one, (Ps.one_mul d).symm⟩
theorem Dv.zero (d : Ps n) : Dv d 0 := ⟨0, Pol.zero, (Ps.zero_mul d).symm⟩
theorem Dv.add {d f g : Ps n} (hf : Dv d f) (hg : Dv d g) : Dv d (f + g) := by
  obtain ⟨a, ha, rfl⟩ := hf
  obtain ⟨b, hb, rfl⟩ := hg
  exact ⟨a + b, ha.add hb, (Ps.add_mul a b d).symm⟩
theorem Dv.mul {d f : Ps n} (hf : Dv d f) {c : Ps n} (hc : Pol c) : Dv d (c * f) := by
  obtain ⟨a, ha, rfl⟩ := hf
  exact ⟨c * a, hc.mul ha, (Ps.mul_assoc c a d).symm⟩
theorem Dv.trans {d e f : Ps n} (h1 : Dv d e) (h2 : Dv e f) : Dv d f := by
  obtain ⟨b, hb, rfl⟩ := h2
  exact h1.mul hb
end Go.Fw
