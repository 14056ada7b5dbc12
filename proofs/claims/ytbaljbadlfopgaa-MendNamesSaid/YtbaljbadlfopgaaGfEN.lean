import Derived.Test.YtbaljbadlfopgaaGfSN
set_option linter.all false
/- Euclid's way with its factors. Plain maths. -/
set_option linter.unusedVariables false
set_option linter.unusedSectionVars false
namespace Go.Fw
variable {n : Nat} [F : Fd n]
theorem tr_nil : tr ([] : List (El n)) = [] := rfl
theorem tr_one : tr [(1 : El n)] = [1] := by unfold tr; simp [tln, El.one_ne]
theorem co_one : co [(1 : El n)] = 1 := Ps.ext fun k => by
  rcases k with _ | k
  · rfl
  · rfl
theorem len_top {a : List (El n)} (h : tr a = a) (h0 : a ≠ []) : (co a).c (a.length - 1) ≠ 0 := by
  have := len_tr h
  have hp : 0 < a.length := List.length_pos_iff.2 h0
  exact tln_top a (a.length - 1) (by omega)
theorem len_of {a : List (El n)} {k : Nat} (h : tr a = a) (h1 : Dg (co a) k) (h2 : k = 0 ∨ (co a).c (k - 1) ≠ 0) : a.length = k := by rw [len_tr h, tln_of h1 h2]
theorem len_le {a : List (El n)} {k : Nat} (h : tr a = a) (h1 : Dg (co a) k) : a.length ≤ k := by
  refine Nat.le_of_not_lt fun h2 => ?_
  have h0 : a ≠ [] := by rintro rfl; simp at h2
  exact len_top h h0 (h1 _ (by omega))
/-- A product that is not 0 and a summand of a lower degree. -/
theorem sum_len {s' u q s : List (El n)} (hs' : tr s' = s') (hq : tr q = q) (hs : tr s = s) (he : co s' = co u + co q * co s) (hq0 : q ≠ []) (hs0 : s ≠ []) (hu : u.length + 1 < q.length + s.length) : s'.length + 1 = q.length + s.length := by
  have hql : 0 < q.length := List.length_pos_iff.2 hq0
  have hsl : 0 < s.length := List.length_pos_iff.2 hs0
  have : s'.length = q.length + s.length - 1 := by
    refine len_of hs' ?_ (Or.inr ?_)
    · rw [he]
      exact ((co_dg u).mono (by omega)).add ((co_dg q).mul (co_dg s))
    · rw [he, Ps.add_c, co_dg u _ (by omega), El.zero_add]
      have h1 : Dg (co q) (q.length - 1 + 1) := (co_dg q).mono (by omega)
      have h2 : Dg (co s) (s.length - 1 + 1) := (co_dg s).mono (by omega)
      have h3 := Ps.mul_top h1 h2
      rw [show q.length + s.length - 1 - 1 = q.length - 1 + (s.length - 1) by omega, h3]
      exact fun e => (El.mul_eq_zero.1 e).elim (len_top hq hq0) (len_top hs hs0)
  omega
theorem quo_len {a q b m : List (El n)} (ha : tr a = a) (hq : tr q = q) (hb : tr b = b) (he : co a = co q * co b + co m) (hm : m.length < b.length) (hl : b.length ≤ a.length) : q.length + b.length = a.length + 1 := by
  have hb0 : b ≠ [] := by rintro rfl; simp at hm
  by_cases hq0 : q = []
  · subst hq0
    have : a.length ≤ m.length := len_le ha (by rw [he, co_nil, Ps.zero_mul, Ps.zero_add]; exact co_dg m)
    omega
  · have hql : 0 < q.length := List.length_pos_iff.2 hq0
    have := sum_len (u := m) ha hq hb (by rw [he, Ps.add_comm]) hq0 hb0 (by omega)
    omega
theorem quo_zero {a q b m : List (El n)} (ha : tr a = a) (hq : tr q = q) (hb : tr b = b) (he : co a = co q * co b + co m) (hm : m.length < b.length) (hl : a.length < b.length) : q = [] := by
  have hb0 : b ≠ [] := by rintro rfl; simp at hm
  refine Classical.byContradiction fun hq0 => ?_
  have hql : 0 < q.length := List.length_pos_iff.2 hq0
  have := sum_len (u := m) ha hq hb (by rw [he, Ps.add_comm]) hq0 hb0 (by omega)
  omega
theorem div_uniq {a b q m q' m' : List (El n)} (hq : tr q = q) (hm : tr m = m) (hq' : tr q' = q') (hm' : tr m' = m') (he : co a = co q * co b + co m) (he' : co a = co q' * co b + co m') (hl : m.length < tln b) (hl' : m'.length < tln b) : q = q' ∧ m = m' := by
  have h : (co q + co q') * co b = co m + co m' := by
    have h1 : co q * co b + co m + (co q' * co b + co m') = 0 := by rw [← he, ← he', Ps.add_self]
    have h2 : (co q + co q') * co b + (co m + co m') = 0 := by rw [← h1, Ps.add_mul]; ac_rfl
    exact Ps.eq_of_add h2
  obtain ⟨d, hd⟩ := ((Pol.of q).add (Pol.of q'))
  have hmm : Dg (co m + co m') (tln b - 1) := ((co_dg m).mono (by omega)).add ((co_dg m').mono (by omega))
  by_cases h0 : tln d = 0
  · have e := co_zero_of_tln h0
    rw [hd] at e
    rw [e, Ps.zero_mul] at h
    exact ⟨tr_inj hq hq' (Ps.eq_of_add e), tr_inj hm hm' (Ps.eq_of_add h.symm)⟩
  · exfalso
    have hp : Pol (co d * co b) := (Pol.of d).mul (Pol.of b)
    obtain ⟨p, hp⟩ := hp
    have h3 := tln_mul hp h0 (by omega)
    have h4 : Dg (co p) (tln b - 1) := by rw [hp, hd, h]; exact hmm
    exact tln_top p (tln p - 1) (by omega) (h4 _ (by omega))
/-- Euclid's way from a and b on, with the factors u, v of a and s, t of b: what it ends with. -/
inductive Eu (d : Nat) : List (El n) → List (El n) → List (El n) → List (El n) → List (El n) → List (El n) → List (El n) → List (El n) → List (El n) → Prop
  | stop {a b u v s t} : a.length ≤ d → Eu d a b u v s t a u v
  | zero {a u v s t} : d < a.length → Eu d a [] u v s t [] s t
  | step {a b u v s t q m s' t' x y z} : d < a.length → b ≠ [] → tr q = q → tr m = m → co a = co q * co b + co m → m.length < b.length → tr s' = s' → co s' = co u + co q * co s → tr t' = t' → co t' = co v + co q * co t →
      Eu d b m s t s' t' x y z → Eu d a b u v s t x y z
/-- What Partial answers. -/
structure Part (f g : Ps n) (d : Nat) (m u v : List (El n)) : Prop where
  tm : tr m = m
  tu : tr u = u
  tv : tr v = v
  eq : co m = co u * f + co v * g
  lm : m.length ≤ d
  cop : ∃ p q, Pol p ∧ Pol q ∧ p * co u + q * co v = 1
theorem Eu.part {d : Nat} {f g : Ps n} {a b u v s t x y z : List (El n)} (h : Eu d a b u v s t x y z) (ha : tr a = a) (hb : tr b = b) (hu : tr u = u) (hv : tr v = v) (hs : tr s = s) (ht : tr t = t)
    (ea : co a = co u * f + co v * g) (eb : co b = co s * f + co t * g) (e1 : co u * co t + co v * co s = 1) : Part f g d x y z := by
  induction h with
  | @stop a b u v s t h1 => exact ⟨ha, hu, hv, ea, h1, co t, co s, Pol.of _, Pol.of _, by rw [← e1]; ac_rfl⟩
  | @zero a u v s t h1 => exact ⟨rfl, hs, ht, eb, by simp, co v, co u, Pol.of _, Pol.of _, by rw [← e1]; ac_rfl⟩
  | @step a b u v s t q m s' t' x y z h1 h2 h3 h4 h5 h6 h7 h8 h9 h10 h11 ih =>
    have hm : co m = co a + co q * co b := by rw [h5]; generalize co q * co b = A; rw [show A + co m + A = co m + (A + A) by ac_rfl, Ps.add_self, Ps.add_zero]
    refine ih hb h4 hs ht h7 h9 eb ?_ ?_
    · rw [hm, ea, eb, h8, h10, Ps.mul_add, Ps.add_mul, Ps.add_mul, Ps.mul_assoc, Ps.mul_assoc]; ac_rfl
    · rw [h8, h10, Ps.mul_add, Ps.mul_add, ← e1]
      rw [show co s * co v + co s * (co q * co t) + (co t * co u + co t * (co q * co s)) = (co u * co t + co v * co s) + (co s * (co q * co t) + co s * (co q * co t)) by
        rw [show co t * (co q * co s) = co s * (co q * co t) by ac_rfl, Ps.mul_comm (co s) (co v), Ps.mul_comm (co t) (co u)]; ac_rfl, Ps.add_self, Ps.add_zero]
theorem Eu.degs {d nF nG : Nat} {a b u v s t x y z : List (El n)} (h : Eu d a b u v s t x y z) (ha : tr a = a) (hb : tr b = b) (hs : tr s = s) (ht : tr t = t) (hba : b.length < a.length)
    (h1 : s.length + a.length = nG + 1) (h2 : u.length ≤ s.length) (h3 : t.length + a.length = nF + 1) (h4 : v.length ≤ t.length) (h5 : v.length + d ≤ nF) (h6 : a.length ≤ nG) (h7 : a.length ≤ nF) : y.length ≤ nG ∧ z.length ≤ nF ∧ z.length + d ≤ nF := by
  induction h with
  | @stop a b u v s t g1 => omega
  | @zero a u v s t g1 => omega
  | @step a b u v s t q m s' t' x y z g1 g2 g3 g4 g5 g6 g7 g8 g9 g10 g11 ih =>
    have hq := quo_len ha g3 hb g5 g6 (by omega)
    have hq0 : q ≠ [] := by rintro rfl; simp at hq; omega
    have e1 := sum_len g7 g3 hs g8 hq0 (by rintro rfl; simp at h1; omega) (by omega)
    have e2 := sum_len g9 g3 ht g10 hq0 (by rintro rfl; simp at h3; omega) (by omega)
    exact ih hb g4 g7 g9 g6 (by omega) (by omega) (by omega) (by omega) (by omega) (by omega) (by omega)
/-- The whole way. -/
theorem Eu.lens {d : Nat} {f g x y z : List (El n)} (h : Eu d (tr f) (tr g) [1] [] [] [1] x y z) :
    y.length ≤ max 1 (tln g) ∧ z.length ≤ max 1 (tln f) ∧ (tln f ≤ d → x = tr f ∧ z = []) ∧ (d < tln f → tln g < tln f → z.length + d ≤ tln f) := by
  have tf := tr_len f
  have tg := tr_len g
  generalize hF : tr f = A at h tf
  generalize hG : tr g = B at h tg
  have hA : tr A = A := by rw [← hF]; exact tr_tr f
  have hB : tr B = B := by rw [← hG]; exact tr_tr g
  cases h with
  | stop h1 => exact ⟨by simp; omega, by simp, fun _ => ⟨rfl, rfl⟩, fun h => by omega⟩
  | zero h1 => exact ⟨by simp, by simp; omega, fun h => by omega, fun _ _ => by simp; omega⟩
  | @step _ _ _ _ _ _ q m s' t' _ _ _ h1 h2 h3 h4 h5 h6 h7 h8 h9 h10 h11 =>
    have hs' : s' = [1] := tr_inj h7 tr_one (by rw [h8, co_nil, Ps.mul_zero, Ps.add_zero])
    have ht' : t' = q := tr_inj h9 h3 (by rw [h10, co_nil, co_one, Ps.mul_one, Ps.zero_add])
    subst hs' ht'
    by_cases hl : B.length ≤ A.length
    · have hq := quo_len hA h3 hB h5 h6 hl
      obtain ⟨r1, r2, r3⟩ := h11.degs (nF := A.length) (nG := B.length) hB h4 tr_one h3 h6 (by simp; omega) (by simp) (by omega) (by simp; omega) (by simp; omega) (by omega) hl
      exact ⟨by omega, by omega, fun h => by omega, fun _ _ => by omega⟩
    · have hq := quo_zero hA h3 hB h5 h6 (by omega)
      subst hq
      have hm : m = A := tr_inj h4 hA (by rw [h5, co_nil, Ps.zero_mul, Ps.zero_add])
      subst hm
      cases h11 with
      | stop h1 => exact ⟨by simp, by simp; omega, fun h => by omega, fun _ _ => by omega⟩
      | zero _ => simp at h1
      | @step _ _ _ _ _ _ q m' s' t' _ _ _ k1 k2 k3 k4 k5 k6 k7 k8 k9 k10 k11 =>
        have ht' : t' = [1] := tr_inj k9 tr_one (by rw [k10, co_nil, Ps.mul_zero, Ps.add_zero])
        have hs' : s' = q := tr_inj k7 k3 (by rw [k8, co_nil, co_one, Ps.mul_one, Ps.zero_add])
        subst hs' ht'
        have hq := quo_len hB k3 hA k5 k6 (by omega)
        obtain ⟨r1, r2, r3⟩ := k11.degs (nF := m.length) (nG := B.length) hA k4 k3 tr_one k6 (by omega) (by simp; omega) (by simp; omega) (by simp) (by simp; omega) (by omega) (by omega)
        exact ⟨by omega, by omega, fun h => by omega, fun _ _ => by omega⟩
theorem Eu.whole {d : Nat} {f g x y z : List (El n)} (h : Eu d (tr f) (tr g) [1] [] [] [1] x y z) : Part (co f) (co g) d x y z :=
  h.part (tr_tr f) (tr_tr g) tr_one tr_nil tr_nil tr_one (by rw [tr_co, co_one, co_nil, Ps.one_mul, Ps.zero_mul, Ps.add_zero]) (by rw [tr_co, co_one, co_nil, Ps.one_mul, Ps.zero_mul, Ps.zero_add]) (by rw [co_one, co_nil, Ps.one_mul, Ps.zero_mul, Ps.add_zero])
end Go.Fw
