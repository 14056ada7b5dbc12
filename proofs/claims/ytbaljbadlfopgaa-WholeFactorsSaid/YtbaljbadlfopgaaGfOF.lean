import Derived.Test.YtbaljbadlfopgaaGfNF
set_option linter.all false
/- Polynomials with as many zeros as coefficients; the vanishing polynomial of the first elements. Plain maths. -/
set_option linter.unusedVariables false
namespace Go.Fw
section
variable {n : Nat} [F : Fd n]
/-- f divided by X + a. -/
def qd (a : El n) : List (El n) → List (El n)
  | [] => []
  | [_] => []
  | _ :: y :: l => evl (y :: l) a :: qd a (y :: l)
theorem qd_len (a : El n) : ∀ l : List (El n), (qd a l).length = l.length - 1
  | [] => rfl
  | [_] => rfl
  | x :: y :: l => by show (qd a (y :: l)).length + 1 = _; rw [qd_len a (y :: l)]; rfl
theorem qd_co (a : El n) : ∀ l : List (El n), co l = lin a * co (qd a l) + Ps.C (evl l a)
  | [] => by
    show (0 : Ps n) = lin a * 0 + Ps.C 0
    rw [Ps.mul_zero, Ps.zero_add]
    refine Ps.ext fun k => ?_
    show (0 : El n) = if k = 0 then 0 else 0
    split <;> rfl
  | [x] => by
    show co [x] = lin a * 0 + Ps.C (x + a * 0)
    rw [Ps.mul_zero, Ps.zero_add, El.mul_zero, El.add_zero]
    refine Ps.ext fun k => ?_
    cases k <;> rfl
  | x :: y :: l => by
    have ih := qd_co a (y :: l)
    show co (x :: y :: l) = lin a * co (evl (y :: l) a :: qd a (y :: l)) + Ps.C (x + a * evl (y :: l) a)
    generalize evl (y :: l) a = v at ih
    have e : ∀ (z : El n) (m : List (El n)), co (z :: m) = Ps.C z + (co m).X := fun z m => Ps.ext fun k => by
      cases k with
      | zero => show z = z + 0; rw [El.add_zero]
      | succ k => show (co m).c k = 0 + (co m).c k; rw [El.zero_add]
    rw [e x, e v, ih]
    refine Ps.ext fun k => ?_
    rw [Ps.mul_add, Ps.add_c, Ps.add_c, Ps.add_c, lin_mul, Ps.mul_comm (lin a) (Ps.X _), Ps.X_mul, Ps.mul_comm _ (lin a)]
    have hC : ∀ (z : El n) (k : Nat), (Ps.C z : Ps n).c (k + 1) = 0 := fun z k => by show (if k + 1 = 0 then z else 0) = 0; rw [if_neg (by omega)]
    have h0 : ∀ (z : El n), (Ps.C z : Ps n).c 0 = z := fun z => rfl
    have hX : ∀ (f : Ps n) (k : Nat), f.X.c (k + 1) = f.c k := fun f k => rfl
    have hX0 : ∀ (f : Ps n), f.X.c 0 = 0 := fun f => rfl
    cases k with
    | zero =>
      rw [if_pos rfl, h0, h0, h0, hX0, hX0, El.add_zero, El.add_zero, El.add_zero, show a * v + (x + a * v) = x + (a * v + a * v) by ac_rfl, El.add_self, El.add_zero]
    | succ k =>
      rw [if_neg (by omega), hC, hC, hC, hX, hX, El.zero_add, El.mul_zero, El.zero_add, El.add_zero, Nat.add_sub_cancel, Ps.add_c]
      cases k with
      | zero => rw [h0]; exact El.add_comm _ _
      | succ k => rw [hC]; exact El.add_comm _ _
theorem evl_qd {a x : El n} {l : List (El n)} (h : evl l a = 0) (hl : l ≠ []) : evl l x = (a + x) * evl (qd a l) x := by
  have hq := qd_co a l
  rw [h] at hq
  have hz : (Ps.C 0 : Ps n) = 0 := Ps.ext fun k => by show (if k = 0 then (0 : El n) else 0) = 0; split <;> rfl
  rw [hz, Ps.add_zero] at hq
  have hlen := qd_len a l
  have hl1 : l.length = (qd a l).length + 1 := by have := List.length_pos_iff.2 hl; omega
  rw [evl_co, evl_co, hq, hl1, ev_lin_mul a x (co_dg (qd a l))]
/-- As many zeros as coefficients: nothing is left. -/
theorem roots_zero : ∀ (xs l : List (El n)), xs.Nodup → l.length ≤ xs.length → (∀ x ∈ xs, evl l x = 0) → co l = 0
  | [], l, _, hl, _ => by
    have : l = [] := List.length_eq_zero_iff.1 (by simpa using hl)
    subst this; rfl
  | a :: xs, l, hd, hl, h => by
    by_cases hl0 : l = []
    · subst hl0; rfl
    have ha := h a (List.mem_cons_self ..)
    obtain ⟨hd1, hd2⟩ := List.nodup_cons.1 hd
    have hq : co (qd a l) = 0 := roots_zero xs (qd a l) hd2 (by rw [qd_len]; simp at hl; omega) fun x hx => by
      have h1 := h x (List.mem_cons_of_mem _ hx)
      rw [evl_qd ha hl0] at h1
      have hne : a + x ≠ 0 := fun e => hd1 (by rw [El.eq_of_add e]; exact hx)
      have h2 := congrArg (fun z => (a + x).inv * z) h1
      simp only [El.mul_zero] at h2
      rw [← El.mul_assoc, El.mul_comm _ (a + x), El.mul_inv _ hne, El.one_mul] at h2
      exact h2
    have hc := qd_co a l
    rw [hq, ha, Ps.mul_zero, Ps.zero_add] at hc
    rw [hc]
    exact Ps.ext fun k => by show (if k = 0 then (0 : El n) else 0) = 0; split <;> rfl
end
end Go.Fw
