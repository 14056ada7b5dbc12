import Derived.Test.YtpmfeaajpjjfiaaGfMP
import Derived.Test.YtpmfeaajpjjfiaaGfWP
set_option linter.all false
/- Lists in the basis X_j as polynomials; the derivative in that basis; s_i as a product over its zeros. Plain maths. -/
set_option linter.unusedVariables false
namespace Go.Fw
/-- c times f -/
def smP (c : El 16) (f : Ps 16) : Ps 16 := ⟨fun t => c * f.c t⟩
/-- The sum of d j X_j, j below n. -/
def mP (k : Nat) (d : Nat → El 16) : Nat → Ps 16
  | 0 => 0
  | n + 1 => mP k d n + smP (d n) (xP k n)
theorem mP_congr {k : Nat} {d e : Nat → El 16} : ∀ {n}, (∀ j, j < n → d j = e j) → mP k d n = mP k e n
  | 0, _ => rfl
  | n + 1, h => by show mP k d n + _ = mP k e n + _; rw [mP_congr fun j hj => h j (by omega), h n (by omega)]
theorem mP_ev {k : Nat} (d : Nat → El 16) (x : El 16) : ∀ n D, n ≤ 2 ^ k → n ≤ D → evn (mP k d n) x D = evX k n d x
  | 0, D, _, _ => evn_zero x D
  | n + 1, D, h, hD => by
    show evn (mP k d n + smP (d n) (xP k n)) x D = esum n _ + d n * xV k n x
    rw [evn_add, mP_ev d x n D (by omega) (by omega)]
    congr 1
    show evn (⟨fun t => d n * (xP k n).c t⟩ : Ps 16) x D = _
    rw [evn_smul, xP_ev x k n D (by omega) (by omega)]
theorem zero_smP (f : Ps 16) : smP 0 f = 0 := Ps.ext fun t => El.zero_mul _
theorem mP_upd {k : Nat} {d e : Nat → El 16} {i : Nat} (h0 : d i = 0) (h : ∀ j, j ≠ i → e j = d j) : ∀ {n}, i < n → mP k e n = mP k d n + smP (e i) (xP k i)
  | n + 1, hi => by
    show mP k e n + smP (e n) _ = mP k d n + smP (d n) _ + _
    by_cases hn : i = n
    · subst hn
      rw [h0, zero_smP, Ps.add_zero, mP_congr fun j hj => h j (by omega)]
    · rw [mP_upd h0 h (by omega), h n (fun e => hn e.symm)]
      refine Ps.ext fun t => ?_
      simp only [Ps.add_c]
      ac_rfl
/-! The derivative. -/
theorem tln_dg_le {n : Nat} [Fd n] {l : List (El n)} {d : Nat} (h : Dg (co l) d) : tln l ≤ d := by
  rcases Nat.lt_or_ge d (tln l) with hlt | hge
  · exact absurd (h (tln l - 1) (by omega)) (tln_top l (tln l - 1) (by omega))
  · exact hge
end Go.Fw
