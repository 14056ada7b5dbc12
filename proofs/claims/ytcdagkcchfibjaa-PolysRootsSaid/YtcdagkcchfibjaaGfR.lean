/- Remainders by a linear factor. Plain maths. -/
import Derived.Test.YtcdagkcchfibjaaGfQ
set_option linter.all false
set_option linter.unusedVariables false
set_option linter.unusedSectionVars false
namespace Go.Fw
variable {n : Nat} [F : Fd n]
theorem root_rem {Q q m : List (El n)} {x : El n} (h : co Q = co q * lin x + co m) : evl Q x = evl m x := by
  have hl := (co_dg q).lin_mul x
  have hN : Q.length + q.length + m.length + 1 = Q.length + q.length + m.length + 1 := rfl
  generalize hn : Q.length + q.length + m.length + 1 = N at hN
  rw [evl_co, evl_co, evn_eq (x := x) (co_dg Q) ((co_dg Q).mono (show Q.length ≤ N by omega)), h, evn_add, Ps.mul_comm, evn_eq (x := x) (hl.mono (show q.length + 1 ≤ N by omega)) hl, ev_lin_mul x x (co_dg q), El.add_self, El.zero_mul, El.zero_add]
  exact evn_eq ((co_dg m).mono (show m.length ≤ N by omega)) (co_dg m)
theorem rem_list {m : List (El n)} (ht : tr m = m) (hl : m.length < 2) (x : El n) : m = if evl m x = 0 then [] else [evl m x] := by
  match m, hl with
  | [], _ =>
    have e : evl ([] : List (El n)) x = 0 := rfl
    rw [if_pos e]
  | [a], _ =>
    have ev : evl [a] x = a := by show a + x * 0 = a; rw [El.mul_zero, El.add_zero]
    rw [ev]
    by_cases ha : a = 0
    · subst ha
      have : tr [(0 : El n)] = [] := by unfold tr; simp [tln]
      rw [this] at ht
      exact absurd ht (by simp)
    · rw [if_neg ha]
theorem co_lin (x : El n) : co [x, 1] = lin x := Ps.ext fun k => by
  rcases k with _ | _ | k
  · rfl
  · rfl
  · rfl
theorem tln_lin (x : El n) : tln [x, 1] = 2 := by simp [tln, El.one_ne]
end Go.Fw
