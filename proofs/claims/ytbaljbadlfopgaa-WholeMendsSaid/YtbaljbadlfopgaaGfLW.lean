import Derived.Test.YtbaljbadlfopgaaGfWW
import Derived.Test.YtbaljbadlfopgaaProg
import Derived.Test.YtbaljbadlfopgaaFwTW
import Derived.Test.YtbaljbadlfopgaaFwVW
set_option linter.all false
/- Derivatives, and the products of linear factors. Plain maths. -/
set_option linter.unusedVariables false
set_option linter.unusedSectionVars false
namespace Go.Fw
variable {n : Nat}
def Ps.e (p : Nat) (f : Ps n) : Ps n := ⟨fun k => if (k + p) % 2 = 1 then f.c k else 0⟩
variable [F : Fd n]
theorem Dg.D {f : Ps n} {d : Nat} (h : Dg f d) : Dg f.D d := fun i hi => by
  show (if i % 2 = 0 then f.c (i + 1) else 0) = 0
  rw [h (i + 1) (by omega)]; split <;> rfl
theorem Dg.one : Dg (1 : Ps n) 1 := fun i hi => by show (if i = 0 then (1 : El n) else 0) = 0; rw [if_neg (by omega)]
theorem Dg.lin_mul {f : Ps n} {d : Nat} (a : El n) (h : Dg f d) : Dg (lin a * f) (d + 1) := ((lin_dg a).mul h).mono (by omega)
theorem vps_snoc (l : List (El n)) (a : El n) : vps (l ++ [a]) = lin a * vps l := by unfold vps; rw [List.foldl_append]; rfl
theorem snoc_ind {α : Type} {P : List α → Prop} (h0 : P []) (h1 : ∀ l a, P l → P (l ++ [a])) (l : List α) : P l := by
  have : ∀ m : List α, P m.reverse := by
    intro m
    induction m with
    | nil => exact h0
    | cons a m ih => rw [List.reverse_cons]; exact h1 _ _ ih
  have := this l.reverse
  rwa [List.reverse_reverse] at this
theorem vps_dg (l : List (El n)) : Dg (vps l) (l.length + 1) := by
  induction l using snoc_ind with
  | h0 => exact Dg.one
  | h1 l a ih => rw [vps_snoc, List.length_append]; exact ih.lin_mul a
/-- The value of a series with a bound. -/
theorem ev_lin_mul {f : Ps n} {d : Nat} (a x : El n) (h : Dg f d) : evn (lin a * f) x (d + 1) = (a + x) * evn f x d := by
  have h1 := evn_mul x (lin_dg a) h
  have h2 : evn (lin a) x 2 = a + x := by
    show a + x * (1 + x * 0) = _
    rw [El.mul_zero, El.add_zero, El.mul_one]
  rw [h2] at h1
  rw [← h1]
  exact evn_eq (h.lin_mul a) (((lin_dg a).mul h).mono (by omega))
theorem ev_vps_zero (x : El n) (l : List (El n)) : evn (vps l) x (l.length + 1) = 0 ↔ x ∈ l := by
  induction l using snoc_ind with
  | h0 =>
    show (if (0 : Nat) = 0 then (1 : El n) else 0) + x * 0 = 0 ↔ _
    rw [if_pos rfl, El.mul_zero, El.add_zero]
    exact ⟨fun h => absurd h El.one_ne, fun h => by cases h⟩
  | h1 l a ih =>
    rw [vps_snoc, List.length_append, List.length_singleton, ev_lin_mul a x (vps_dg l), El.mul_eq_zero, ih, El.add_eq_zero, List.mem_append, List.mem_singleton]
    exact ⟨fun h => by rcases h with h | h; · exact Or.inr h.symm
                       · exact Or.inl h, fun h => by rcases h with h | h; · exact Or.inr h
                                                     · exact Or.inl h.symm⟩
theorem vps_top (l : List (El n)) : (vps l).c l.length = 1 := by
  induction l using snoc_ind with
  | h0 => rfl
  | h1 l a ih =>
    rw [vps_snoc, List.length_append, List.length_singleton, lin_mul, vps_dg l _ (Nat.le_refl _), El.mul_zero, El.zero_add, if_neg (by omega), Nat.add_sub_cancel, ih]
theorem tln_mul {l m p : List (El n)} (hp : co p = co l * co m) (hl : tln l ≠ 0) (hm : tln m ≠ 0) : tln p = tln l + tln m - 1 := by
  have h1 : (co l * co m).c (tln l - 1 + (tln m - 1)) = (co l).c (tln l - 1) * (co m).c (tln m - 1) :=
    Ps.mul_top (by rw [show tln l - 1 + 1 = tln l by omega]; exact tln_dg l) (by rw [show tln m - 1 + 1 = tln m by omega]; exact tln_dg m)
  refine tln_of (by rw [hp]; exact (tln_dg l).mul (tln_dg m)) (Or.inr ?_)
  rw [hp, show tln l + tln m - 1 - 1 = tln l - 1 + (tln m - 1) by omega, h1]
  intro h
  rcases El.mul_eq_zero.1 h with h | h
  · exact tln_top l _ (by omega) h
  · exact tln_top m _ (by omega) h
theorem len_tr {p : List (El n)} (h : tr p = p) : p.length = tln p := by rw [← tr_len, h]
theorem tr_inj {p q : List (El n)} (hp : tr p = p) (hq : tr q = q) (h : co p = co q) : p = q := by rw [← hp, ← hq, tr_eq h]
end Go.Fw

/- Remainders by a linear factor. Plain maths. -/
set_option linter.unusedVariables false
set_option linter.unusedSectionVars false
namespace Go.Fw
variable {n : Nat} [F : Fd n]
end Go.Fw

/- Polynomials among the series; divisors. Plain maths. -/
set_option linter.unusedVariables false
set_option linter.unusedSectionVars false
namespace Go.Fw
variable {n : Nat} [F : Fd n]
/-- A polynomial. -/
def Pol (f : Ps n) : Prop := ∃ l : List (El n), co l = f
theorem Pol.of (l : List (El n)) : Pol (co l) := ⟨l, rfl⟩
theorem Pol.dg {f : Ps n} {d : Nat} (h : Dg f d) : Pol f := ⟨ofc d f, ofc_co h⟩
theorem Pol.bound {f : Ps n} (h : Pol f) : ∃ d, Dg f d := by obtain ⟨l, rfl⟩ := h; exact ⟨_, co_dg l⟩
theorem Pol.add {f g : Ps n} (hf : Pol f) (hg : Pol g) : Pol (f + g) := by
  obtain ⟨a, ha⟩ := hf.bound
  obtain ⟨b, hb⟩ := hg.bound
  exact Pol.dg (d := a + b) ((ha.mono (by omega)).add (hb.mono (by omega)))
theorem Pol.mul {f g : Ps n} (hf : Pol f) (hg : Pol g) : Pol (f * g) := by
  obtain ⟨a, ha⟩ := hf.bound
  obtain ⟨b, hb⟩ := hg.bound
  exact Pol.dg (ha.mul hb)
theorem Pol.zero : Pol (0 : Ps n) := ⟨[], rfl⟩
theorem Pol.one : Pol (1 : Ps n) := Pol.dg Dg.one
theorem Pol.C (a : El n) : Pol (Ps.C a) := Pol.dg (d := 1) fun i hi => by show (if i = 0 then a else 0) = 0; rw [if_neg (by omega)]
/-- d divides f. -/
def Dv (d f : Ps n) : Prop := ∃ q, Pol q ∧ f = q * d
theorem Dv.refl (d : Ps n) : Dv d d := ⟨1, Pol.one, (Ps.one_mul d).symm⟩
theorem Dv.zero (d : Ps n) : Dv d 0 := ⟨0, Pol.zero, (Ps.zero_mul d).symm⟩
theorem Dv.add {d f g : Ps n} (hf : Dv d f) (hg : Dv d g) : Dv d (f + g) := by
  obtain ⟨a, ha, rfl⟩ := hf
  obtain ⟨b, hb, rfl⟩ := hg
  exact ⟨a + b, ha.add hb, (Ps.add_mul a b d).symm⟩
theorem Dv.mul {d f : Ps n} (hf : Dv d f) {c : Ps n} (hc : Pol c) : Dv d (c * f) := by
  obtain ⟨a, ha, rfl⟩ := hf
  exact ⟨c * a, hc.mul ha, (Ps.mul_assoc c a d).symm⟩
theorem Dv.trans {d e f : Ps n} (h1 : Dv d e) (h2 : Dv e f) : Dv d f := by
  obtain ⟨b, hb, rfl⟩ := h2
  exact h1.mul hb
end Go.Fw

set_option linter.unusedVariables false
set_option linter.unusedSimpArgs false
set_option maxRecDepth 100000
set_option maxHeartbeats 1000000
namespace Go.Proofs.Ytbaljbadlfopgaa.Fw
open Go Go.Fw Go.Proofs
attribute [local irreducible] stepI
end Go.Proofs.Ytbaljbadlfopgaa.Fw
namespace Go.Proofs.Ytbaljbadlfopgaa.Fw
open Go Go.Fw
end Go.Proofs.Ytbaljbadlfopgaa.Fw

namespace Go.Proofs.Ytbaljbadlfopgaa.Fw
open Go Go.Fw
end Go.Proofs.Ytbaljbadlfopgaa.Fw

namespace Go.Proofs.Ytbaljbadlfopgaa.Fw
open Go Go.Fw
end Go.Proofs.Ytbaljbadlfopgaa.Fw

namespace Go.Proofs.Ytbaljbadlfopgaa.Fw
open Go Go.Fw
end Go.Proofs.Ytbaljbadlfopgaa.Fw

/- The values elsewhere of the polynomial that has given values on one coset. Plain maths. -/
set_option linter.unusedVariables false
namespace Go.Fw
end Go.Fw
