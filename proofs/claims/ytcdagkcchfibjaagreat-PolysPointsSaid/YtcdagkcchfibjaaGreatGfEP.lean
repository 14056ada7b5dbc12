import Derived.Test.YtcdagkcchfibjaaGreatProg
import Derived.Test.YtcdagkcchfibjaaGreatFwTP
import Derived.Test.YtcdagkcchfibjaaGreatSZwP
import Derived.Test.YtcdagkcchfibjaaGreatGfSP
import Derived.Test.YtcdagkcchfibjaaGreatSZgP
set_option linter.all false
set_option linter.unusedVariables false
set_option linter.unusedSimpArgs false
set_option maxRecDepth 100000
set_option maxHeartbeats 1000000
namespace Go.Proofs.YtcdagkcchfibjaaGreat.Fw
open Go Go.Fw Go.Proofs
attribute [local irreducible] stepI
end Go.Proofs.YtcdagkcchfibjaaGreat.Fw
namespace Go.Proofs.YtcdagkcchfibjaaGreat.Fw
open Go Go.Fw
end Go.Proofs.YtcdagkcchfibjaaGreat.Fw

namespace Go.Proofs.YtcdagkcchfibjaaGreat.Fw
open Go Go.Fw
end Go.Proofs.YtcdagkcchfibjaaGreat.Fw

set_option linter.unusedVariables false
set_option linter.unusedSimpArgs false
set_option maxRecDepth 100000
set_option maxHeartbeats 1000000
namespace Go.Proofs.YtcdagkcchfibjaaGreat.Fw
open Go Go.Fw Go.Proofs
attribute [local irreducible] stepI
end Go.Proofs.YtcdagkcchfibjaaGreat.Fw
namespace Go.Proofs.YtcdagkcchfibjaaGreat.Fw
open Go Go.Fw
end Go.Proofs.YtcdagkcchfibjaaGreat.Fw

/- Euclid's way with its factors. Plain maths. -/
set_option linter.unusedVariables false
set_option linter.unusedSectionVars false
namespace Go.Fw
variable {n : Nat} [F : Fd n]
theorem tr_nil : tr ([] : List (El n)) = [] := rfl
theorem tr_one : tr [(1 : El n)] = [1] := by unfold tr; simp [tln, El.one_ne]
theorem co_one : co [(1 : El n)] = 1 := Ps.ext fun k => by
  rcases k with _ | k
  · rfl
  · rfl
theorem len_top {a : List (El n)} (h : tr a = a) (h0 : a ≠ []) : (co a).c (a.length - 1) ≠ 0 := by
  have := len_tr h
  have hp : 0 < a.length := List.length_pos_iff.2 h0
  exact tln_top a (a.length - 1) (by omega)
theorem len_of {a : List (El n)} {k : Nat} (h : tr a = a) (h1 : Dg (co a) k) (h2 : k = 0 ∨ (co a).c (k - 1) ≠ 0) : a.length = k := by rw [len_tr h, tln_of h1 h2]
theorem len_le {a : List (El n)} {k : Nat} (h : tr a = a) (h1 : Dg (co a) k) : a.length ≤ k := by
  refine Nat.le_of_not_lt fun h2 => ?_
  have h0 : a ≠ [] := by rintro rfl; simp at h2
  exact len_top h h0 (h1 _ (by omega))
/-- A product that is not 0 and a summand of a lower degree. -/
theorem sum_len {s' u q s : List (El n)} (hs' : tr s' = s') (hq : tr q = q) (hs : tr s = s) (he : co s' = co u + co q * co s) (hq0 : q ≠ []) (hs0 : s ≠ []) (hu : u.length + 1 < q.length + s.length) : s'.length + 1 = q.length + s.length := by
  have hql : 0 < q.length := List.length_pos_iff.2 hq0
  have hsl : 0 < s.length := List.length_pos_iff.2 hs0
  have : s'.length = q.length + s.length - 1 := by
    refine len_of hs' ?_ (Or.inr ?_)
    · rw [he]
      exact ((co_dg u).mono (by omega)).add ((co_dg q).mul (co_dg s))
    · rw [he, Ps.add_c, co_dg u _ (by omega), El.zero_add]
      have h1 : Dg (co q) (q.length - 1 + 1) := (co_dg q).mono (by omega)
      have h2 : Dg (co s) (s.length - 1 + 1) := (co_dg s).mono (by omega)
      have h3 := Ps.mul_top h1 h2
      rw [show q.length + s.length - 1 - 1 = q.length - 1 + (s.length - 1) by omega, h3]
      exact fun e => (El.mul_eq_zero.1 e).elim (len_top hq hq0) (len_top hs hs0)
  omega
theorem quo_len {a q b m : List (El n)} (ha : tr a = a) (hq : tr q = q) (hb : tr b = b) (he : co a = co q * co b + co m) (hm : m.length < b.length) (hl : b.length ≤ a.length) : q.length + b.length = a.length + 1 := by
  have hb0 : b ≠ [] := by rintro rfl; simp at hm
  by_cases hq0 : q = []
  · subst hq0
    have : a.length ≤ m.length := len_le ha (by rw [he, co_nil, Ps.zero_mul, Ps.zero_add]; exact co_dg m)
    omega
  · have hql : 0 < q.length := List.length_pos_iff.2 hq0
    have := sum_len (u := m) ha hq hb (by rw [he, Ps.add_comm]) hq0 hb0 (by omega)
    omega
/-- Euclid's way from a and b on, with the factors u, v of a and s, t of b: what it ends with. -/
inductive Eu (d : Nat) : List (El n) → List (El n) → List (El n) → List (El n) → List (El n) → List (El n) → List (El n) → List (El n) → List (El n) → Prop
  | stop {a b u v s t} : a.length ≤ d → Eu d a b u v s t a u v
  | zero {a u v s t} : d < a.length → Eu d a [] u v s t [] s t
  | step {a b u v s t q m s' t' x y z} : d < a.length → b ≠ [] → tr q = q → tr m = m → co a = co q * co b + co m → m.length < b.length → tr s' = s' → co s' = co u + co q * co s → tr t' = t' → co t' = co v + co q * co t →
      Eu d b m s t s' t' x y z → Eu d a b u v s t x y z
/-- What Partial answers. -/
structure Part (f g : Ps n) (d : Nat) (m u v : List (El n)) : Prop where
  tm : tr m = m
  tu : tr u = u
  tv : tr v = v
  eq : co m = co u * f + co v * g
  lm : m.length ≤ d
  cop : ∃ p q, Pol p ∧ Pol q ∧ p * co u + q * co v = 1
theorem Eu.part {d : Nat} {f g : Ps n} {a b u v s t x y z : List (El n)} (h : Eu d a b u v s t x y z) (ha : tr a = a) (hb : tr b = b) (hu : tr u = u) (hv : tr v = v) (hs : tr s = s) (ht : tr t = t)
    (ea : co a = co u * f + co v * g) (eb : co b = co s * f + co t * g) (e1 : co u * co t + co v * co s = 1) : Part f g d x y z := by
  induction h with
  | @stop a b u v s t h1 => exact ⟨ha, hu, hv, ea, h1, co t, co s, Pol.of _, Pol.of _, by rw [← e1]; ac_rfl⟩
  | @zero a u v s t h1 => exact ⟨rfl, hs, ht, eb, by simp, co v, co u, Pol.of _, Pol.of _, by rw [← e1]; ac_rfl⟩
  | @step a b u v s t q m s' t' x y z h1 h2 h3 h4 h5 h6 h7 h8 h9 h10 h11 ih =>
    have hm : co m = co a + co q * co b := by rw [h5]; generalize co q * co b = A; rw [show A + co m + A = co m + (A + A) by ac_rfl, Ps.add_self, Ps.add_zero]
    refine ih hb h4 hs ht h7 h9 eb ?_ ?_
    · rw [hm, ea, eb, h8, h10, Ps.mul_add, Ps.add_mul, Ps.add_mul, Ps.mul_assoc, Ps.mul_assoc]; ac_rfl
    · rw [h8, h10, Ps.mul_add, Ps.mul_add, ← e1]
      rw [show co s * co v + co s * (co q * co t) + (co t * co u + co t * (co q * co s)) = (co u * co t + co v * co s) + (co s * (co q * co t) + co s * (co q * co t)) by
        rw [show co t * (co q * co s) = co s * (co q * co t) by ac_rfl, Ps.mul_comm (co s) (co v), Ps.mul_comm (co t) (co u)]; ac_rfl, Ps.add_self, Ps.add_zero]
theorem Eu.whole {d : Nat} {f g x y z : List (El n)} (h : Eu d (tr f) (tr g) [1] [] [] [1] x y z) : Part (co f) (co g) d x y z :=
  h.part (tr_tr f) (tr_tr g) tr_one tr_nil tr_nil tr_one (by rw [tr_co, co_one, co_nil, Ps.one_mul, Ps.zero_mul, Ps.add_zero]) (by rw [tr_co, co_one, co_nil, Ps.one_mul, Ps.zero_mul, Ps.zero_add]) (by rw [co_one, co_nil, Ps.one_mul, Ps.zero_mul, Ps.add_zero])
end Go.Fw
