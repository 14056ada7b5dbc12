import Derived.Test.YtbaljbadlfopgaaGfXF
import Derived.Test.YtbaljbadlfopgaaGfLF
set_option linter.all false
/- The factors of the long family: the values at the first elements of the polynomial that is 1 at one of the others. Plain maths. -/
set_option linter.unusedVariables false
namespace Go.Fw
theorem factor_law (u r i j : Nat) (f : Ps 16) (hr : r ≤ 16) (hi : 2 ^ u + i < 2 ^ r) (hj : j < 2 ^ u) (hd : Dg f (2 ^ r - 2 ^ u))
    (hv : ∀ t, t < 2 ^ r - 2 ^ u → evn f (wel (2 ^ u + t)) (2 ^ r - 2 ^ u) = if t = i then 1 else 0) :
    evn f (wel j) (2 ^ r - 2 ^ u) = wel ((2 ^ u + i) >>> u) * (wel j + wel (2 ^ u + i)).inv := by
  have h16 := pow_le16' hr
  have hsu : ∀ t, t < 65536 → ∀ d, 2 ^ u + 1 ≤ d → evn (sP u) (wel t) d = wel (t >>> u) := fun t ht d hd => by rw [sP_ev _ u d hd, sV_wel u t ht]
  have hsr : ∀ t, t < 65536 → ∀ d, 2 ^ r + 1 ≤ d → evn (sP r) (wel t) d = wel (t >>> r) := fun t ht d hd => by rw [sP_ev _ r d hd, sV_wel r t ht]
  have hz : ∀ (e t : Nat), t < 2 ^ e → wel (t >>> e) = 0 := fun e t ht => by rw [Nat.shiftRight_eq_div_pow, Nat.div_eq_of_lt ht, wel_zero]
  have du := sP_dg u
  have dr := sP_dg r
  have tr := sP_top r
  have Du := sP_D u
  have Dr := sP_D r
  have p0 := Nat.two_pow_pos u
  have zu := hz u
  have zr := hz r
  generalize 2 ^ u = M at *
  generalize 2 ^ r = N at *
  obtain ⟨n, rfl⟩ : ∃ n, N = M + n := ⟨N - M, by omega⟩
  rw [Nat.add_sub_cancel_left] at *
  clear hz
  generalize sP u = su at *
  generalize sP r = sr at *
  obtain ⟨a, ha⟩ : ∃ a, a = wel (M + i) := ⟨_, rfl⟩
  obtain ⟨g, hg⟩ : ∃ g, g = lin a * f := ⟨_, rfl⟩
  have dg : Dg g (n + 1) := by rw [hg]; exact hd.lin_mul a
  obtain ⟨P, hP⟩ : ∃ P, P = g * su := ⟨_, rfl⟩
  have dP : Dg P (M + n + 1) := by rw [hP]; exact (dg.mul du).mono (by omega)
  have eP : ∀ x, evn P x (M + n + 1) = ((a + x) * evn f x n) * evn su x (M + 1) := fun x => by
    rw [evn_eq dP (show Dg P ((n + 1) + (M + 1)) from dP.mono (by omega)), hP, evn_mul x dg du, hg, ev_lin_mul a x hd]
  have zP : ∀ t, t < M + n → evn P (wel t) (M + n + 1) = 0 := fun t ht => by
    rw [eP]
    by_cases h1 : t < M
    · rw [hsu t (by omega) _ (Nat.le_refl _), zu t h1, El.mul_zero]
    · obtain ⟨s, rfl⟩ : ∃ s, t = M + s := ⟨t - M, by omega⟩
      rw [hv s (by omega)]
      by_cases h2 : s = i
      · rw [h2, ha, El.add_self, El.zero_mul, El.zero_mul]
      · rw [if_neg h2, El.mul_zero, El.zero_mul]
  -- P is a multiple of s_r
  obtain ⟨c, hc⟩ : ∃ c, c = P.c (M + n) := ⟨_, rfl⟩
  have hPc : P = Ps.C c * sr := by
    refine Ps.eq_of_add ?_
    have dQ : Dg (P + Ps.C c * sr) (M + n + 1) := dP.add (Cm_dg c dr)
    have dQ' : Dg (P + Ps.C c * sr) (M + n) := fun k hk => by
      by_cases h : k = M + n
      · rw [h, Ps.add_c, Ps.C_mul, tr, El.mul_one, ← hc, El.add_self]
      · exact dQ k (by omega)
    refine zero_of wel 0 (M + n) dQ' (fun x y hx hy e => ?_) fun t ht => ?_
    · rw [Nat.zero_add, Nat.zero_add] at e
      exact wel_inj (by omega) (by omega) e
    · rw [Nat.zero_add, evn_eq dQ' dQ, evn_add, zP t ht, ev_Cm, hsr t (by omega) _ (Nat.le_refl _), zr t ht, El.mul_zero, El.add_zero]
  have DP : P.D = Ps.C c := by
    rw [hPc, Ps.D_mul, Dr, Ps.mul_one]
    have : (Ps.C c : Ps 16).D = 0 := Ps.ext fun k => by
      show (if k % 2 = 0 then (if k + 1 = 0 then c else 0) else 0) = 0
      rw [if_neg (show ¬ k + 1 = 0 by omega)]; split <;> rfl
    rw [this, Ps.zero_mul, Ps.zero_add]
  have dC : Dg (Ps.C c : Ps 16) 1 := fun k hk => by show (if k = 0 then c else 0) = 0; rw [if_neg (by omega)]
  have eC : ∀ x, evn (Ps.C c : Ps 16) x 1 = c := fun x => by
    show c + x * 0 = c
    rw [El.mul_zero, El.add_zero]
  have DP2 : P.D = g.D * su + g := by rw [hP, Ps.D_mul, Du, Ps.mul_one]
  have Dg2 : g.D = f + lin a * f.D := by rw [hg, Ps.D_mul, Ps.D_lin, Ps.one_mul]
  have key : ∀ x, c = (evn f x n + (a + x) * evn f.D x n) * evn su x (M + 1) + (a + x) * evn f x n := fun x => by
    have e1 : Dg (Ps.C c : Ps 16) ((n + 1) + (M + 1)) := dC.mono (by omega)
    have e2 := evn_eq (x := x) dC e1
    rw [eC, ← DP, DP2, evn_add] at e2
    have dgD : Dg g.D (n + 1) := dg.D
    rw [evn_mul x dgD du, evn_eq (dg.mono (by omega)) dg, Dg2, evn_add, ev_lin_mul a x hd.D, hg, ev_lin_mul a x hd, evn_eq (hd.mono (by omega)) hd] at e2
    exact e2
  have k1 := key a
  rw [El.add_self, El.zero_mul, El.zero_mul, El.add_zero, El.add_zero, ha, hv i (by omega), if_pos rfl, El.one_mul, hsu (M + i) (by omega) _ (Nat.le_refl _)] at k1
  have k2 := key (wel j)
  rw [hsu j (by omega) _ (Nat.le_refl _), zu j hj, El.mul_zero, El.zero_add] at k2
  have hne : wel j + wel (M + i) ≠ 0 := wel_ne (by omega) (by omega) (by omega)
  rw [← k1, k2, ha, El.add_comm (wel (M + i)), El.mul_comm _ (evn f (wel j) n), El.mul_assoc, El.mul_inv _ hne, El.mul_one]
end Go.Fw
