/- s_i keeps sums, its square and itself, its linear coefficients; s_i at w(j). -/
import Derived.Test.YtcnabolainmaeaaPureMul
import Derived.Test.YtcnabolainmaeaaPAx1
import Derived.Test.YtcnabolainmaeaaPAx2
import Derived.Test.YtcnabolainmaeaaPAx3
import Derived.Test.YtcnabolainmaeaaPAx4
import Derived.Test.YtcnabolainmaeaaPAx5
set_option linter.unusedVariables false
namespace Go.Proofs.Ytcnabolainmaeaa.Pure
open Go.RowKit Go.Proofs.Ytcnabolainmaeaa.PA Go.Proofs.YtcnabolainmaeaaW.PrintWords Go.Proofs.YtcnabolainmaeaaW.PrintLast Go.Proofs.YtcnabolainmaeaaW.PrintMore

theorem awake_ev : Ev (fun k => culletlaw13_awake.f k) true := Ev.of (fun k => culletlaw13_awake.mono k) (k := 200) (by decide +kernel)
theorem num_shr (J : G) (i : Nat) (hi : i ≤ 64) : shr .i64 (num J) (i : Int) = num (J >>> i) := by
  unfold shr num
  rw [Int.toNat_natCast, Nat.min_eq_left (by exact hi), BitVec.toNat_ushiftRight, Nat.shiftRight_eq_div_pow]
  rw [show ((2 : Int) ^ i) = ((2 ^ i : Nat) : Int) by simp]; rfl
theorem skew_ev (i : Nat) (J : G) (hi : i ≤ 16) : Ev (fun k => lch_Skew.f k (i : Int) (num J)) (num (el (J >>> i)), 0) := by
  have hj := num_lt J
  unfold lch_Skew.f
  simp only [if_neg (show ¬ (i : Int) < 0 by omega), show decide ((i : Int) > 16) = false by simp; omega]
  refine Ev.step (fun k => by simp only [lch_Skew.j0]; rw [if_neg (by decide), if_neg (by omega), if_neg (by omega), if_pos (by omega), num_shr J i (by omega)]) (Ev.bind (element_ev (J >>> i)) (Ev.now _))
theorem skew_out (i j : Int) (h : i < 0 ∨ 16 < i) : Ev (fun k => lch_Skew.f k i j) (0, 7) := by
  refine Ev.congr (f := fun k => lch_Skew.j0 k i j true) (fun k => ?_) (Ev.step (f := fun _ => some (0, 7)) (fun k => by simp only [lch_Skew.j0]; rw [if_pos trivial]) (Ev.now _))
  unfold lch_Skew.f
  by_cases a : i < 0
  · rw [if_pos a]
  · rw [if_neg a, show decide (i > 16) = true by simp; omega]
theorem skew_far (i j : Int) (h : ¬ (i < 0 ∨ 16 < i)) (hj : j < 0 ∨ 65535 < j) : Ev (fun k => lch_Skew.f k i j) (0, 31) := by
  refine Ev.congr (f := fun k => lch_Skew.j0 k i j false) (fun k => ?_) (Ev.step (f := fun _ => some (0, 31)) (fun k => ?_) (Ev.now _))
  · unfold lch_Skew.f
    rw [if_neg (by omega), show decide (i > 16) = false by simp; omega]
  · simp only [lch_Skew.j0]
    rw [if_neg (by decide)]
    by_cases a : j < 0
    · rw [if_pos a]
    · rw [if_neg a, if_pos (by omega)]
theorem shr_zero_iff (J : G) (i : Nat) : J >>> i = 0 ↔ J.toNat < 2 ^ i := by
  constructor
  · intro h
    have := congrArg BitVec.toNat h
    rw [BitVec.toNat_ushiftRight, Nat.shiftRight_eq_div_pow] at this
    exact (Nat.div_eq_zero_iff_lt (Nat.two_pow_pos i)).1 (by simpa using this)
  · intro h
    refine BitVec.eq_of_toNat_eq ?_
    rw [BitVec.toNat_ushiftRight, Nat.shiftRight_eq_div_pow, Nat.div_eq_of_lt h]; rfl
theorem LchCantor : culletlaw13_LchCantor.Pure := by
  intro i j wi wj
  refine Ev.rounds ?_
  refine ev_bind (g := fun k => culletlaw13_awake.f k) (fun k => by unfold culletlaw13_LchCantor.f; rfl) awake_ev ?_
  simp only [if_true]
  by_cases hi : i < 0 ∨ 16 < i
  · refine Ev.bind (skew_out i j hi) ?_
    refine Ev.congr (f := fun k => culletlaw13_LchCantor.j0 k i j 0 7 true) (fun k => ?_) (Ev.step (f := fun _ => some true) (fun k => by simp only [culletlaw13_LchCantor.j0]; rw [if_pos trivial, if_pos trivial]; rfl) (Ev.now _))
    by_cases a : i < 0
    · rw [if_pos a]
    · rw [if_neg a, show decide (i > 16) = true by simp; omega]
  · by_cases hj : j < 0 ∨ 65535 < j
    · refine Ev.bind (skew_far i j hi hj) ?_
      refine Ev.congr (f := fun k => culletlaw13_LchCantor.j0 k i j 0 31 false) (fun k => ?_) (Ev.step (f := fun k => culletlaw13_LchCantor.j1 k i j 0 31 true) (fun k => ?_) (Ev.step (f := fun _ => some true) (fun k => by simp only [culletlaw13_LchCantor.j1]; rw [if_pos trivial, if_pos trivial]; rfl) (Ev.now _)))
      · rw [if_neg (by omega), show decide (i > 16) = false by simp; omega]
      · simp only [culletlaw13_LchCantor.j0]
        rw [if_neg (by decide)]
        by_cases a : j < 0
        · rw [if_pos a]
        · rw [if_neg a, show decide (j > 65535) = true by simp; omega]
    · obtain ⟨n, rfl⟩ := Int.eq_ofNat_of_zero_le (show 0 ≤ i by omega)
      have hn : n ≤ 16 := by omega
      obtain ⟨J, rfl⟩ : ∃ J : G, j = num J := ⟨BitVec.ofNat 16 j.toNat, (num_of (by omega) (by omega)).symm⟩
      refine Ev.bind (skew_ev n J hn) ?_
      refine Ev.congr (f := fun k => culletlaw13_LchCantor.j0 k (n : Int) (num J) (num (el (J >>> n))) 0 false) (fun k => ?_) (Ev.step (f := fun k => culletlaw13_LchCantor.j1 k (n : Int) (num J) (num (el (J >>> n))) 0 false) (fun k => ?_) ?_)
      · rw [if_neg (by omega), show decide ((n : Int) > 16) = false by simp; omega]
      · simp only [culletlaw13_LchCantor.j0]
        rw [if_neg (by decide), if_neg (by omega), show decide (num J > 65535) = false by simp; omega]
      · refine Ev.step (fun k => by simp only [culletlaw13_LchCantor.j1]; rw [if_neg (by decide), wu64 (n := (n : Int)) (by omega) (by omega)]) (Ev.bind (element_ev J) ?_)
        simp only [if_pos (show (0 : Int) ≤ (n : Int) by omega), num_shr J n (by omega)]
        refine Ev.bind (element_ev (J >>> n)) ?_
        have hv := vanish_ev n (el J)
        rw [if_pos hn, sub_el] at hv
        refine Ev.bind hv (ev_const fun k => ?_)
        simp only [if_true]
        have hP : 2 ^ n ≤ 2 ^ 16 := Nat.pow_le_pow_right (by omega) hn
        have hP0 : 0 < 2 ^ n := Nat.two_pow_pos n
        have hs : shl .i64 1 (n : Int) = ((2 ^ n : Nat) : Int) := by
          unfold shl
          rw [Int.toNat_natCast, Nat.min_eq_left (by show n ≤ 64; omega), show ((2 : Int) ^ n) = ((2 ^ n : Nat) : Int) by simp, IntKind.wrap_i64]
          omega
        have hz := shr_zero_iff J n
        have he := el_zero_iff (J >>> n)
        have hnum := num_zero_iff (el (J >>> n))
        rw [hs]
        congr 1
        by_cases hJ : J.toNat < 2 ^ n
        · have h0 : num (el (J >>> n)) = 0 := hnum.2 (he.2 (hz.2 hJ))
          rw [h0, show decide (num J < ((2 ^ n : Nat) : Int)) = true by unfold num; simp; exact_mod_cast hJ]; rfl
        · have h0 : ¬ num (el (J >>> n)) = 0 := fun h => hJ (hz.1 (he.1 (hnum.1 h)))
          rw [show (num (el (J >>> n)) == 0) = false by simpa using h0, show decide (num J < ((2 ^ n : Nat) : Int)) = false by unfold num; simp; exact_mod_cast Nat.le_of_not_lt hJ]; rfl

/-! additive -/
def fr : Nat → G → G
  | 0, x => x
  | t + 1, x => sq (fr t x)
theorem add_fr : ∀ t, Add (fr t)
  | 0 => add_id
  | t + 1 => fun a b => by show sq (fr t (a ^^^ b)) = sq (fr t a) ^^^ sq (fr t b); rw [add_fr t a b, add_sq]
def cf (l : List Int) (t : Nat) : G := BitVec.ofNat 16 (rd l (t : Int)).toNat
def linS (l : List Int) (n : Nat) (x : G) : G := sum (fun t => mul (cf l t) (fr t x)) n
theorem add_linS (l : List Int) : ∀ n, Add (linS l n)
  | 0 => fun a b => by simp [linS, sum]
  | n + 1 => fun a b => by
    have h1 := add_linS l n a b
    unfold linS at *
    simp only [sum]
    rw [h1, add_fr n a b, mul_xor_right]; ac_rfl
theorem linear_all : ∀ i : Nat, i < 17 → (match lch_Linear.f 400 (i : Int) with | some (l, e') => decide (e' = 0) && decide (l.length = i + 1) && l.all (fun c => decide (0 ≤ c) && decide (c < 65536)) && (List.range 16).all (fun j => decide (linS l (i + 1) (e j) = sub i (e j))) | none => false) = true := by decide +kernel
theorem linear_ev (i : Nat) (hi : i ≤ 16) : ∃ l, Ev (fun k => lch_Linear.f k (i : Int)) (l, 0) ∧ l.length = i + 1 ∧ (∀ t, t < i + 1 → rd l (t : Int) = num (cf l t)) ∧ ∀ x, linS l (i + 1) x = sub i x := by
  have h := linear_all i (by omega)
  cases hq : lch_Linear.f 400 (i : Int) with
  | none => rw [hq] at h; cases h
  | some p =>
    obtain ⟨l, e'⟩ := p
    rw [hq] at h
    simp only [Bool.and_eq_true, decide_eq_true_eq, List.all_eq_true, List.mem_range] at h
    obtain ⟨⟨⟨h1, h2⟩, h3⟩, h4⟩ := h
    subst h1
    refine ⟨l, Ev.of (fun k => lch_Linear.mono _ k) hq, h2, fun t ht => ?_, fun x => Add.ext (add_linS l (i + 1)) (add_sub i) h4 x⟩
    unfold cf
    have hm : rd l (t : Int) ∈ l := by
      unfold rd
      rw [Int.toNat_natCast, List.getD_eq_getElem?_getD, List.getElem?_eq_getElem (by omega)]
      exact List.getElem_mem _
    have := h3 _ hm
    exact (num_of this.1 this.2).symm
theorem linear_out (i : Int) (h : i < 0 ∨ 16 < i) : Ev (fun k => lch_Linear.f k i) ([], 7) := by
  refine Ev.congr (f := fun k => lch_Linear.j0 k i true) (fun k => ?_) (Ev.step (f := fun _ => some ([], 7)) (fun k => by simp only [lch_Linear.j0]; rw [if_pos trivial]) (Ev.now _))
  unfold lch_Linear.f
  by_cases a : i < 0
  · rw [if_pos a]
  · rw [if_neg a, show decide (i > 16) = true by simp; omega]
theorem vanish_out (i x : Int) (h : i < 0 ∨ 16 < i) : Ev (fun k => lch_Vanish.f k i x) (0, 7) := by
  unfold lch_Vanish.f
  by_cases a : i < 0
  · simp only [if_pos a]; exact Ev.now _
  · simp only [if_neg a, if_pos (show i > 16 by omega)]; exact Ev.now _
theorem additive_loop (i : Nat) (hi : i ≤ 16) (x : G) (l : List Int) (hl : l.length = i + 1) (hc : ∀ t, t < i + 1 → rd l (t : Int) = num (cf l t)) (hs : ∀ x, linS l (i + 1) x = sub i x) : ∀ c t, t + c = i + 1 →
    Ev (fun k => culletlaw13_LchAdditive.l0 k (i : Int) (num x) (num (sub i x)) l (num (linS l t x)) (num (fr t x)) (t : Int)) true
  | 0, t, ht => by
    have ht' : t = i + 1 := by omega
    subst ht'
    refine Ev.step (f := fun k => if (i : Int) = 16 then (some (num (sub i x) == 0)) else ((lch_Vanish.f k (wrap64 ((i : Int) + 1)) (num x)).bind fun bt176 => (if bt176.2 = 0 then ((gf16_Mul.f k (num (sub i x)) (num (sub i x))).bind fun t178 => (some (bt176.1 == (Go.bits .xor .u16 t178 (num (sub i x)))))) else (some false)))) (fun k => by simp only [culletlaw13_LchAdditive.l0]; rw [if_neg (by omega), hs, if_pos rfl]) ?_
    by_cases h16 : i = 16
    · subst h16
      simp only [if_pos (show ((16 : Nat) : Int) = 16 from rfl)]
      refine ev_const fun k => ?_
      rw [sub16]; rfl
    · simp only [if_neg (show ¬ (i : Int) = 16 by omega), w64 (n := (i : Int) + 1) (by omega) (by omega)]
      have hv := vanish_ev (i + 1) x
      rw [if_pos (by omega), show ((i + 1 : Nat) : Int) = (i : Int) + 1 by omega] at hv
      refine Ev.bind hv ?_
      simp only [if_true]
      refine Ev.bind (mul_ev (sub i x) (sub i x)) (ev_const fun k => ?_)
      rw [num_xor]
      show some (num (sub (i + 1) x) == num (sq (sub i x) ^^^ sub i x)) = some true
      rw [show sub (i + 1) x = sq (sub i x) ^^^ sub i x from rfl]; simp
  | c + 1, t, ht => by
    have ih := additive_loop i hi x l hl hc hs c (t + 1) (by omega)
    refine Ev.step (fun k => by simp only [culletlaw13_LchAdditive.l0]; rw [if_pos (by omega), if_pos (by omega), if_pos (by omega), hc t (by omega)]) (Ev.bind (mul_ev (cf l t) (fr t x)) (Ev.bind (mul_ev (fr t x) (fr t x)) ?_))
    rw [num_xor, w64 (by omega) (by omega)]
    exact ih
theorem LchAdditive : culletlaw13_LchAdditive.Pure := by
  intro i a1 a2 wi w1 w2
  have b1 : 0 ≤ a1 ∧ a1 < 65536 := by simp [Lit.wf, IntKind.min, IntKind.max, IntKind.bits, IntKind.signed] at w1; omega
  have b2 : 0 ≤ a2 ∧ a2 < 65536 := by simp [Lit.wf, IntKind.min, IntKind.max, IntKind.bits, IntKind.signed] at w2; omega
  obtain ⟨x, rfl⟩ : ∃ x : G, a1 = num x := ⟨BitVec.ofNat 16 a1.toNat, (num_of b1.1 b1.2).symm⟩
  obtain ⟨y, rfl⟩ : ∃ y : G, a2 = num y := ⟨BitVec.ofNat 16 a2.toNat, (num_of b2.1 b2.2).symm⟩
  refine Ev.rounds ?_
  refine ev_bind (g := fun k => culletlaw13_awake.f k) (fun k => by unfold culletlaw13_LchAdditive.f; rfl) awake_ev ?_
  simp only [if_true]
  by_cases hi : i < 0 ∨ 16 < i
  · refine Ev.bind (vanish_out i _ hi) (Ev.bind (linear_out i hi) ?_)
    refine Ev.congr (f := fun k => culletlaw13_LchAdditive.j0 k i (num x) (num y) 0 7 [] 7 true) (fun k => ?_) (Ev.step (f := fun _ => some true) (fun k => by simp only [culletlaw13_LchAdditive.j0]; simp) (Ev.now _))
    by_cases a : i < 0
    · rw [if_pos a]
    · rw [if_neg a, show decide (i > 16) = true by simp; omega]
  · obtain ⟨n, rfl⟩ := Int.eq_ofNat_of_zero_le (show 0 ≤ i by omega)
    have hn : n ≤ 16 := by omega
    obtain ⟨l, hle, hll, hlc, hls⟩ := linear_ev n hn
    have v1 := vanish_ev n x
    have v2 := vanish_ev n y
    have v3 := vanish_ev n (x ^^^ y)
    rw [if_pos hn] at v1 v2 v3
    refine Ev.bind v1 (Ev.bind hle ?_)
    refine Ev.congr (f := fun k => culletlaw13_LchAdditive.j0 k (n : Int) (num x) (num y) (num (sub n x)) 0 l 0 false) (fun k => ?_) ?_
    · rw [if_neg (by omega), show decide ((n : Int) > 16) = false by simp; omega]
    · refine Ev.step (fun k => by simp only [culletlaw13_LchAdditive.j0]; rw [if_neg (by decide), num_xor]) (Ev.bind v2 (Ev.bind v3 ?_))
      simp only [if_true]
      rw [num_xor, add_sub n x y]
      simp only [if_true]
      rw [show ((l.length : Int) != wrap64 ((n : Int) + 1)) = false by rw [w64 (by omega) (by omega)]; simp; omega]
      refine Ev.step (fun k => by simp only [culletlaw13_LchAdditive.j1]; rw [if_neg (by decide)]) ?_
      exact additive_loop n hn x l hll hlc hls (n + 1) 0 (by omega)
end Go.Proofs.Ytcnabolainmaeaa.Pure
