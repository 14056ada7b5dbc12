import Derived.Test.YtbaljbadlfopgaaGfLW
import Derived.Test.YtbaljbadlfopgaaGfWW
set_option linter.all false
/- The polynomials s_i and X_j in powers of x. Plain maths. -/
set_option linter.unusedVariables false
namespace Go.Fw
/-- The coefficient of x^(2^t) in s_i. -/
def lc : Nat → Nat → El 16
  | 0, t => if t = 0 then 1 else 0
  | i + 1, t => lc i t + match t with | 0 => 0 | t + 1 => lc i t * lc i t
end Go.Fw

/- Lists in the basis X_j as polynomials; the derivative in that basis; s_i as a product over its zeros. Plain maths. -/
set_option linter.unusedVariables false
namespace Go.Fw
/-! The derivative. -/
end Go.Fw

/- Polynomials with as many zeros as coefficients; the vanishing polynomial of the first elements. Plain maths. -/
set_option linter.unusedVariables false
namespace Go.Fw
section
variable {n : Nat} [F : Fd n]
/-- f divided by X + a. -/
def qd (a : El n) : List (El n) → List (El n)
  | [] => []
  | [_] => []
  | _ :: y :: l => evl (y :: l) a :: qd a (y :: l)
theorem qd_len (a : El n) : ∀ l : List (El n), (qd a l).length = l.length - 1
  | [] => rfl
  | [_] => rfl
  | x :: y :: l => by show (qd a (y :: l)).length + 1 = _; rw [qd_len a (y :: l)]; rfl
theorem qd_co (a : El n) : ∀ l : List (El n), co l = lin a * co (qd a l) + Ps.C (evl l a)
  | [] => by
    show (0 : Ps n) = lin a * 0 + Ps.C 0
    rw [Ps.mul_zero, Ps.zero_add]
    refine Ps.ext fun k => ?_
    show (0 : El n) = if k = 0 then 0 else 0
    split <;> rfl
  | [x] => by
    show co [x] = lin a * 0 + Ps.C (x + a * 0)
    rw [Ps.mul_zero, Ps.zero_add, El.mul_zero, El.add_zero]
    refine Ps.ext fun k => ?_
    cases k <;> rfl
  | x :: y :: l => by
    have ih := qd_co a (y :: l)
    show co (x :: y :: l) = lin a * co (evl (y :: l) a :: qd a (y :: l)) + Ps.C (x + a * evl (y :: l) a)
    generalize evl (y :: l) a = v at ih
    have e : ∀ (z : El n) (m : List (El n)), co (z :: m) = Ps.C z + (co m).X := fun z m => Ps.ext fun k => by
      cases k with
      | zero => show z = z + 0; rw [El.add_zero]
      | succ k => show (co m).c k = 0 + (co m).c k; rw [El.zero_add]
    rw [e x, e v, ih]
    refine Ps.ext fun k => ?_
    rw [Ps.mul_add, Ps.add_c, Ps.add_c, Ps.add_c, lin_mul, Ps.mul_comm (lin a) (Ps.X _), Ps.X_mul, Ps.mul_comm _ (lin a)]
    have hC : ∀ (z : El n) (k : Nat), (Ps.C z : Ps n).c (k + 1) = 0 := fun z k => by show (if k + 1 = 0 then z else 0) = 0; rw [if_neg (by omega)]
    have h0 : ∀ (z : El n), (Ps.C z : Ps n).c 0 = z := fun z => rfl
    have hX : ∀ (f : Ps n) (k : Nat), f.X.c (k + 1) = f.c k := fun f k => rfl
    have hX0 : ∀ (f : Ps n), f.X.c 0 = 0 := fun f => rfl
    cases k with
    | zero =>
      rw [if_pos rfl, h0, h0, h0, hX0, hX0, El.add_zero, El.add_zero, El.add_zero, show a * v + (x + a * v) = x + (a * v + a * v) by ac_rfl, El.add_self, El.add_zero]
    | succ k =>
      rw [if_neg (by omega), hC, hC, hC, hX, hX, El.zero_add, El.mul_zero, El.zero_add, El.add_zero, Nat.add_sub_cancel, Ps.add_c]
      cases k with
      | zero => rw [h0]; exact El.add_comm _ _
      | succ k => rw [hC]; exact El.add_comm _ _
theorem evl_qd {a x : El n} {l : List (El n)} (h : evl l a = 0) (hl : l ≠ []) : evl l x = (a + x) * evl (qd a l) x := by
  have hq := qd_co a l
  rw [h] at hq
  have hz : (Ps.C 0 : Ps n) = 0 := Ps.ext fun k => by show (if k = 0 then (0 : El n) else 0) = 0; split <;> rfl
  rw [hz, Ps.add_zero] at hq
  have hlen := qd_len a l
  have hl1 : l.length = (qd a l).length + 1 := by have := List.length_pos_iff.2 hl; omega
  rw [evl_co, evl_co, hq, hl1, ev_lin_mul a x (co_dg (qd a l))]
/-- As many zeros as coefficients: nothing is left. -/
theorem roots_zero : ∀ (xs l : List (El n)), xs.Nodup → l.length ≤ xs.length → (∀ x ∈ xs, evl l x = 0) → co l = 0
  | [], l, _, hl, _ => by
    have : l = [] := List.length_eq_zero_iff.1 (by simpa using hl)
    subst this; rfl
  | a :: xs, l, hd, hl, h => by
    by_cases hl0 : l = []
    · subst hl0; rfl
    have ha := h a (List.mem_cons_self ..)
    obtain ⟨hd1, hd2⟩ := List.nodup_cons.1 hd
    have hq : co (qd a l) = 0 := roots_zero xs (qd a l) hd2 (by rw [qd_len]; simp at hl; omega) fun x hx => by
      have h1 := h x (List.mem_cons_of_mem _ hx)
      rw [evl_qd ha hl0] at h1
      have hne : a + x ≠ 0 := fun e => hd1 (by rw [El.eq_of_add e]; exact hx)
      have h2 := congrArg (fun z => (a + x).inv * z) h1
      simp only [El.mul_zero] at h2
      rw [← El.mul_assoc, El.mul_comm _ (a + x), El.mul_inv _ hne, El.one_mul] at h2
      exact h2
    have hc := qd_co a l
    rw [hq, ha, Ps.mul_zero, Ps.zero_add] at hc
    rw [hc]
    exact Ps.ext fun k => by show (if k = 0 then (0 : El n) else 0) = 0; split <;> rfl
end
end Go.Fw

/- Newton's form: divided differences give the values back. -/
set_option linter.unusedVariables false
set_option linter.unusedSimpArgs false
namespace Go.Fw
open Go
section
variable {n : Nat} [F : Fd n]
/-- Divided differences, as the table is filled: entry i behind k rounds. -/
def dd (x y : Nat → El n) : Nat → Nat → El n
  | 0, i => y i
  | k + 1, i => (dd x y k i + dd x y k (i - 1)) * (x i + x (i - (k + 1))).inv
/-- The product over the points i, i + 1, .. (k of them). -/
def wX (x : Nat → El n) (i k : Nat) : Ps n := vps ((List.range k).map fun t => x (i + t))
def nw (x y : Nat → El n) (i : Nat) : Nat → Ps n
  | 0 => 0
  | k + 1 => nw x y i k + Ps.C (dd x y k (i + k)) * wX x i k
theorem wX_succ (x : Nat → El n) (i k : Nat) : wX x i (k + 1) = lin (x (i + k)) * wX x i k := by
  unfold wX
  rw [List.range_succ, List.map_append, List.map_singleton, vps_snoc]
theorem wX_dg (x : Nat → El n) (i k : Nat) : Dg (wX x i k) (k + 1) := by
  have := vps_dg ((List.range k).map fun t => x (i + t))
  rwa [List.length_map, List.length_range] at this
theorem wX_top (x : Nat → El n) (i k : Nat) : (wX x i k).c k = 1 := by
  have := vps_top ((List.range k).map fun t => x (i + t))
  rwa [List.length_map, List.length_range] at this
theorem wX_zero (x : Nat → El n) (i k j : Nat) (hj : j < k) : evn (wX x i k) (x (i + j)) (k + 1) = 0 := by
  have := (ev_vps_zero (x (i + j)) ((List.range k).map fun t => x (i + t))).2 (List.mem_map.2 ⟨j, List.mem_range.2 hj, rfl⟩)
  rwa [List.length_map, List.length_range] at this
theorem Cm_dg {f : Ps n} {d : Nat} (a : El n) (h : Dg f d) : Dg (Ps.C a * f) d := fun i hi => by rw [Ps.C_mul, h i hi, El.mul_zero]
theorem ev_Cm (a z : El n) (f : Ps n) (d : Nat) : evn (Ps.C a * f) z d = a * evn f z d := by
  rw [show Ps.C a * f = ⟨fun i => a * f.c i⟩ from Ps.ext fun i => Ps.C_mul a f i, evn_smul]
/-- A polynomial with at most k coefficients that is 0 at k points is 0. -/
theorem zero_of (x : Nat → El n) (i k : Nat) {f : Ps n} (hd : Dg f k) (hx : ∀ a b, a < k → b < k → x (i + a) = x (i + b) → a = b) (h : ∀ j, j < k → evn f (x (i + j)) k = 0) : f = 0 := by
  have h1 : co (ofc k f) = f := ofc_co hd
  have h2 : ((List.range k).map fun t => x (i + t)).Nodup := by
    unfold List.Nodup
    rw [List.pairwise_map]
    refine List.Pairwise.imp_of_mem (R := (· < ·)) (fun {a b} ha hb hab e => ?_) List.pairwise_lt_range
    have := hx a b (List.mem_range.1 ha) (List.mem_range.1 hb) e
    omega
  have := roots_zero ((List.range k).map fun t => x (i + t)) (ofc k f) h2 (by rw [ofc_len, List.length_map, List.length_range]; exact Nat.le_refl _) fun z hz => by
    obtain ⟨j, hj, rfl⟩ := List.mem_map.1 hz
    rw [evl_co, h1, ofc_len]
    exact h j (List.mem_range.1 hj)
  rw [← h1, this]
theorem El.eq_of_add0 {a b : El n} (h : a + b = 0) : a = b := by
  have : a + b + b = 0 + b := by rw [h]
  rwa [El.add_assoc, El.add_self, El.add_zero, El.zero_add] at this
theorem nw_dg (x y : Nat → El n) (i : Nat) : ∀ k, Dg (nw x y i k) k
  | 0 => fun _ _ => rfl
  | k + 1 => ((nw_dg x y i k).mono (by omega)).add (Cm_dg _ (wX_dg x i k))
theorem nw_top (x y : Nat → El n) (i k : Nat) : (nw x y i (k + 1)).c k = dd x y k (i + k) := by
  show (nw x y i k + _).c k = _
  rw [Ps.add_c, nw_dg x y i k k (Nat.le_refl _), Ps.C_mul, wX_top, El.mul_one, El.zero_add]
/-- Newton's form takes the values. -/
theorem nw_ev (x y : Nat → El n) (N : Nat) (hx : ∀ a b, a < N → b < N → x a = x b → a = b) : ∀ k i, i + k ≤ N → ∀ j, j < k → evn (nw x y i k) (x (i + j)) k = y (i + j)
  | 0, i, _, j, hj => by omega
  | 1, i, _, j, hj => by
    obtain rfl : j = 0 := by omega
    have e1 : nw x y i 1 = Ps.C (y i) * wX x i 0 := by
      show 0 + Ps.C (dd x y 0 (i + 0)) * wX x i 0 = _
      rw [Ps.zero_add]; rfl
    rw [e1, ev_Cm]
    have e2 : evn (wX x i 0) (x (i + 0)) 1 = 1 := by
      show (1 : El n) + x (i + 0) * 0 = 1
      rw [El.mul_zero, El.add_zero]
    rw [e2, El.mul_one]; rfl
  | k + 2, i, hN, j, hj => by
    have hne : x (i + k + 1) + x i ≠ 0 := fun e => by
      have := hx _ _ (by omega) (by omega) (El.eq_of_add0 e)
      omega
    generalize hc : (x (i + k + 1) + x i).inv = c
    have hcm : c * (x (i + k + 1) + x i) = 1 := by rw [← hc, El.mul_comm]; exact El.mul_inv _ hne
    have A1 := nw_ev x y N hx (k + 1) i (by omega)
    have B1 := nw_ev x y N hx (k + 1) (i + 1) (by omega)
    have dA := nw_dg x y i (k + 1)
    have dB := nw_dg x y (i + 1) (k + 1)
    have tA := nw_top x y i k
    have tB := nw_top x y (i + 1) k
    have hS : nw x y i (k + 2) = nw x y i (k + 1) + Ps.C (dd x y (k + 1) (i + (k + 1))) * wX x i (k + 1) := rfl
    have hdd : dd x y (k + 1) (i + (k + 1)) = c * (dd x y k (i + 1 + k) + dd x y k (i + k)) := by
      show (dd x y k (i + (k + 1)) + dd x y k (i + (k + 1) - 1)) * (x (i + (k + 1)) + x (i + (k + 1) - (k + 1))).inv = _
      rw [show i + (k + 1) - 1 = i + k by omega, show i + (k + 1) - (k + 1) = i by omega, show i + (k + 1) = i + 1 + k by omega, ← hc, show i + k + 1 = i + 1 + k by omega, El.mul_comm]
    generalize nw x y i (k + 1) = A at A1 dA tA hS
    generalize nw x y (i + 1) (k + 1) = Bp at B1 dB tB
    obtain ⟨M, hM⟩ : ∃ M, M = Ps.C c * (lin (x i) * Bp + lin (x (i + k + 1)) * A) := ⟨_, rfl⟩
    have dM : Dg M (k + 2) := by rw [hM]; exact Cm_dg _ ((dB.lin_mul _).add (dA.lin_mul _))
    have eM : ∀ z, evn M z (k + 2) = c * ((x i + z) * evn Bp z (k + 1) + (x (i + k + 1) + z) * evn A z (k + 1)) := fun z => by
      rw [hM, ev_Cm, evn_add, ev_lin_mul _ _ dB, ev_lin_mul _ _ dA]
    have vM : ∀ j, j < k + 2 → evn M (x (i + j)) (k + 2) = y (i + j) := fun j hj => by
      rw [eM]
      by_cases h0 : j = 0
      · subst h0
        rw [Nat.add_zero, El.add_self, El.zero_mul, El.zero_add, show evn A (x i) (k + 1) = y i from A1 0 (by omega), ← El.mul_assoc, hcm, El.one_mul]
      by_cases h1 : j = k + 1
      · subst h1
        have h2 := B1 k (by omega)
        rw [show i + 1 + k = i + (k + 1) by omega] at h2
        rw [h2, show x (i + k + 1) = x (i + (k + 1)) from rfl, El.add_self, El.zero_mul, El.add_zero, ← El.mul_assoc, El.add_comm (x i), show x (i + (k + 1)) = x (i + k + 1) from rfl, hcm, El.one_mul]
      · have h2 := B1 (j - 1) (by omega)
        rw [show i + 1 + (j - 1) = i + j by omega] at h2
        rw [h2, A1 j (by omega), ← El.add_mul, show x i + x (i + j) + (x (i + k + 1) + x (i + j)) = x (i + k + 1) + x i + (x (i + j) + x (i + j)) by ac_rfl, El.add_self, El.add_zero, ← El.mul_assoc, hcm, El.one_mul]
    have tM : M.c (k + 1) = dd x y (k + 1) (i + (k + 1)) := by
      rw [hM, Ps.C_mul, Ps.add_c, lin_mul, lin_mul, dB (k + 1) (Nat.le_refl _), dA (k + 1) (Nat.le_refl _), El.mul_zero, El.mul_zero, El.zero_add, El.zero_add, if_neg (by omega), if_neg (by omega), Nat.add_sub_cancel, tA, tB, hdd]
    -- M is the form
    have hz : M + nw x y i (k + 2) = 0 := by
      refine zero_of x i (k + 1) ?_ (fun a b ha hb e => by have := hx _ _ (by omega) (by omega) e; omega) fun j hj => ?_
      · intro q hq
        by_cases hq1 : q = k + 1
        · subst hq1
          rw [Ps.add_c, tM, nw_top, El.add_self]
        · rw [Ps.add_c, dM q (by omega), nw_dg x y i (k + 2) q (by omega), El.add_zero]
      · have hd : Dg (M + nw x y i (k + 2)) (k + 1) := fun q hq => by
          by_cases hq1 : q = k + 1
          · subst hq1
            rw [Ps.add_c, tM, nw_top, El.add_self]
          · rw [Ps.add_c, dM q (by omega), nw_dg x y i (k + 2) q (by omega), El.add_zero]
        rw [evn_eq hd (hd.mono (show k + 1 ≤ k + 2 by omega)), evn_add, vM j (by omega), hS, evn_add, ev_Cm, wX_zero x i (k + 1) j hj, El.mul_zero, El.add_zero, ← evn_eq dA (dA.mono (show k + 1 ≤ k + 2 by omega)), A1 j hj, El.add_self]
    rw [← Ps.eq_of_add hz]
    exact vM j hj
/-- Horner's road over the differences, from the top down. -/
theorem nw_horner (x y : Nat → El n) (m : Nat) (H : Nat → Ps n) (h0 : H m = 0) (hs : ∀ k, k < m → H k = H (k + 1) * lin (x k) + Ps.C (dd x y k k)) : ∀ d, d ≤ m → nw x y 0 m = nw x y 0 (m - d) + wX x 0 (m - d) * H (m - d)
  | 0, _ => by rw [Nat.sub_zero, h0, Ps.mul_zero, Ps.add_zero]
  | d + 1, h => by
    have ih := nw_horner x y m H h0 hs d (by omega)
    obtain ⟨k, hk⟩ : ∃ k, k = m - (d + 1) := ⟨_, rfl⟩
    rw [show m - d = k + 1 by omega] at ih
    rw [← hk, ih, hs k (by omega), wX_succ]
    show nw x y 0 k + Ps.C (dd x y k (0 + k)) * wX x 0 k + lin (x (0 + k)) * wX x 0 k * H (k + 1) = _
    rw [Nat.zero_add, Ps.mul_add]
    ac_rfl
theorem nw_all (x y : Nat → El n) (m : Nat) (H : Nat → Ps n) (h0 : H m = 0) (hs : ∀ k, k < m → H k = H (k + 1) * lin (x k) + Ps.C (dd x y k k)) : H 0 = nw x y 0 m := by
  have := nw_horner x y m H h0 hs m (Nat.le_refl _)
  rw [Nat.sub_self] at this
  rw [this, show wX x 0 0 = 1 from rfl, Ps.one_mul, show nw x y 0 0 = 0 from rfl, Ps.zero_add]
end
end Go.Fw
