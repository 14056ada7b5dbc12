import Derived.Test.YtpmfeaajpjjfiaaGfBA
import Derived.Test.YtpmfeaajpjjfiaaSS14rA
set_option linter.all false
/- Series and polynomials over the two fields. Plain maths. -/
set_option linter.unusedVariables false
set_option linter.unusedSectionVars false
namespace Go.Fw
variable {n : Nat}

/-- Coefficients. -/
structure Ps (n : Nat) where
  c : Nat → El n
theorem Ps.ext {f g : Ps n} (h : ∀ i, f.c i = g.c i) : f = g := by cases f; cases g; congr 1; exact funext h
def Ps.sh (f : Ps n) : Ps n := ⟨fun i => f.c (i + 1)⟩
instance : Add (Ps n) := ⟨fun f g => ⟨fun i => f.c i + g.c i⟩⟩
instance : Zero (Ps n) := ⟨⟨fun _ => 0⟩⟩
theorem Ps.add_c (f g : Ps n) (i : Nat) : (f + g).c i = f.c i + g.c i := rfl
theorem Ps.zero_c (i : Nat) : (0 : Ps n).c i = 0 := rfl
theorem Ps.add_comm (f g : Ps n) : f + g = g + f := Ps.ext fun i => El.add_comm _ _
theorem Ps.add_assoc (f g h : Ps n) : f + g + h = f + (g + h) := Ps.ext fun i => El.add_assoc _ _ _
instance : Std.Commutative (α := Ps n) (· + ·) := ⟨Ps.add_comm⟩
instance : Std.Associative (α := Ps n) (· + ·) := ⟨Ps.add_assoc⟩
theorem Ps.add_self (f : Ps n) : f + f = 0 := Ps.ext fun i => El.add_self _
theorem Ps.add_zero (f : Ps n) : f + 0 = f := Ps.ext fun i => El.add_zero _
theorem Ps.zero_add (f : Ps n) : 0 + f = f := Ps.ext fun i => El.zero_add _
theorem Ps.add_cancel (f g : Ps n) : f + g + g = f := by rw [Ps.add_assoc, Ps.add_self, Ps.add_zero]
variable [F : Fd n]
def mc (f g : Ps n) : Nat → El n
  | 0 => f.c 0 * g.c 0
  | k + 1 => f.c 0 * g.c (k + 1) + mc f.sh g k
instance : Mul (Ps n) := ⟨fun f g => ⟨mc f g⟩⟩
instance : One (Ps n) := ⟨⟨fun i => if i = 0 then 1 else 0⟩⟩
/-- A constant. -/
def Ps.C (a : El n) : Ps n := ⟨fun i => if i = 0 then a else 0⟩
theorem Ps.mul_0 (f g : Ps n) : (f * g).c 0 = f.c 0 * g.c 0 := rfl
theorem Ps.mul_s (f g : Ps n) (k : Nat) : (f * g).c (k + 1) = f.c 0 * g.c (k + 1) + (f.sh * g).c k := rfl
theorem Ps.sh_c (f : Ps n) (i : Nat) : f.sh.c i = f.c (i + 1) := rfl
theorem Ps.mul_add_c (f g h : Ps n) : ∀ k, (f * (g + h)).c k = (f * g).c k + (f * h).c k := by
  intro k
  induction k generalizing f with
  | zero => exact El.mul_add _ _ _
  | succ k ih => simp only [Ps.mul_s, ih, Ps.add_c, El.mul_add]; ac_rfl
theorem Ps.add_mul_c (f g h : Ps n) : ∀ k, ((f + g) * h).c k = (f * h).c k + (g * h).c k := by
  intro k
  induction k generalizing f g with
  | zero => exact El.add_mul _ _ _
  | succ k ih =>
    simp only [Ps.mul_s, Ps.add_c, El.add_mul]
    rw [show (f + g).sh = f.sh + g.sh from rfl, ih]
    ac_rfl
theorem Ps.mul_add (f g h : Ps n) : f * (g + h) = f * g + f * h := Ps.ext (Ps.mul_add_c f g h)
theorem Ps.add_mul (f g h : Ps n) : (f + g) * h = f * h + g * h := Ps.ext (Ps.add_mul_c f g h)
theorem Ps.mul_s' (f g : Ps n) (k : Nat) : (f * g).c (k + 1) = f.c (k + 1) * g.c 0 + (f * g.sh).c k := by
  induction k generalizing f with
  | zero => simp only [Ps.mul_s, Ps.mul_0, Ps.sh_c]; exact El.add_comm _ _
  | succ k ih => rw [Ps.mul_s, ih, Ps.mul_s f g.sh]; simp only [Ps.sh_c]; ac_rfl
theorem Ps.mul_comm (f g : Ps n) : f * g = g * f := by
  refine Ps.ext fun k => ?_
  induction k generalizing f g with
  | zero => exact El.mul_comm _ _
  | succ k ih => rw [Ps.mul_s, Ps.mul_s', ih, El.mul_comm]
theorem Ps.smul_c (a : El n) (f g : Ps n) : ∀ k, ((⟨fun i => a * f.c i⟩ : Ps n) * g).c k = a * (f * g).c k := by
  intro k
  induction k generalizing f with
  | zero => exact El.mul_assoc _ _ _
  | succ k ih =>
    rw [Ps.mul_s, Ps.mul_s, El.mul_add]
    rw [show (⟨fun i => a * f.c i⟩ : Ps n).sh = ⟨fun i => a * f.sh.c i⟩ from rfl, ih, El.mul_assoc]
theorem Ps.sh_mul (f g : Ps n) : (f * g).sh = (⟨fun i => f.c 0 * g.sh.c i⟩ : Ps n) + f.sh * g := Ps.ext fun k => rfl
theorem Ps.mul_assoc (f g h : Ps n) : f * g * h = f * (g * h) := by
  refine Ps.ext fun k => ?_
  induction k generalizing f g h with
  | zero => exact El.mul_assoc _ _ _
  | succ k ih =>
    rw [Ps.mul_s, Ps.sh_mul, Ps.add_mul, Ps.add_c, Ps.smul_c, ih, Ps.mul_s f, Ps.mul_s g, El.mul_add, Ps.mul_0, El.mul_assoc, El.add_assoc]
instance : Std.Commutative (α := Ps n) (· * ·) := ⟨Ps.mul_comm⟩
instance : Std.Associative (α := Ps n) (· * ·) := ⟨Ps.mul_assoc⟩
theorem Ps.zero_mul (f : Ps n) : 0 * f = 0 := by
  have h := Ps.add_mul 0 0 f
  rw [Ps.add_self, Ps.add_self] at h
  exact h
theorem Ps.mul_zero (f : Ps n) : f * 0 = 0 := by rw [Ps.mul_comm, Ps.zero_mul]
theorem Ps.C_mul (a : El n) (f : Ps n) (k : Nat) : (Ps.C a * f).c k = a * f.c k := by
  cases k with
  | zero => rfl
  | succ k =>
    rw [Ps.mul_s, show (Ps.C a : Ps n).sh = 0 from Ps.ext fun i => by show (if i + 1 = 0 then a else 0) = 0; simp, Ps.zero_mul, Ps.zero_c, El.add_zero]; rfl
theorem Ps.one_mul (f : Ps n) : 1 * f = f := Ps.ext fun k => by
  rw [show (1 : Ps n) = Ps.C 1 from rfl, Ps.C_mul, El.one_mul]
theorem Ps.mul_one (f : Ps n) : f * 1 = f := by rw [Ps.mul_comm, Ps.one_mul]
/-- X times f -/
def Ps.X (f : Ps n) : Ps n := ⟨fun i => match i with | 0 => 0 | i + 1 => f.c i⟩
theorem Ps.X_mul (f g : Ps n) : f.X * g = (f * g).X := Ps.ext fun k => by
  cases k with
  | zero => exact El.zero_mul _
  | succ k => rw [Ps.mul_s]; show 0 * _ + (f * g).c k = _; rw [El.zero_mul, El.zero_add]; rfl
theorem Ps.split (f : Ps n) : f = Ps.C (f.c 0) + f.sh.X := Ps.ext fun k => by
  cases k with
  | zero => show f.c 0 = f.c 0 + 0; rw [El.add_zero]
  | succ k => show f.c (k + 1) = 0 + f.c (k + 1); rw [El.zero_add]

/-! Degrees -/
/-- f's degree is below d. -/
def Dg (f : Ps n) (d : Nat) : Prop := ∀ i, d ≤ i → f.c i = 0
theorem Dg.mono {f : Ps n} {d e : Nat} (h : Dg f d) (hd : d ≤ e) : Dg f e := fun i hi => h i (by omega)
theorem Dg.add {f g : Ps n} {d : Nat} (hf : Dg f d) (hg : Dg g d) : Dg (f + g) d := fun i hi => by rw [Ps.add_c, hf i hi, hg i hi, El.add_zero]
theorem Dg.zero {f : Ps n} (h : Dg f 0) : f = 0 := Ps.ext fun i => h i (by omega)
theorem Dg.sh {f : Ps n} {d : Nat} (h : Dg f (d + 1)) : Dg f.sh d := fun i hi => h (i + 1) (by omega)
theorem Dg.mul {f g : Ps n} : ∀ {a b : Nat}, Dg f a → Dg g b → Dg (f * g) (a + b - 1)
  | 0, b, hf, hg => by rw [hf.zero, Ps.zero_mul]; exact fun i _ => rfl
  | a + 1, b, hf, hg => fun i hi => by
    cases i with
    | zero =>
      have : b = 0 := by omega
      subst this
      rw [hg.zero, Ps.mul_zero]; rfl
    | succ i =>
      rw [Ps.mul_s, hg (i + 1) (by omega), El.mul_zero, El.zero_add]
      exact Dg.mul hf.sh hg i (by omega)
/-! Values -/
/-! Lists -/
def co (l : List (El n)) : Ps n := ⟨fun i => l.getD i 0⟩
theorem co_dg (l : List (El n)) : Dg (co l) l.length := fun i hi => by
  show l.getD i 0 = 0
  rw [List.getD_eq_getElem?_getD, List.getElem?_eq_none hi]; rfl
theorem co_get (l : List (El n)) {i : Nat} (h : i < l.length) : (co l).c i = l[i] := by
  show l.getD i 0 = _
  rw [List.getD_eq_getElem?_getD, List.getElem?_eq_getElem h]; rfl
theorem co_ext {l m : List (El n)} (hl : l.length = m.length) (h : co l = co m) : l = m := by
  refine List.ext_getElem hl fun i h1 h2 => ?_
  rw [← co_get l h1, ← co_get m h2, h]
/-- The first m coefficients. -/
def ofc (m : Nat) (f : Ps n) : List (El n) := (List.range m).map f.c
theorem ofc_len (m : Nat) (f : Ps n) : (ofc m f).length = m := by simp [ofc]
theorem ofc_co {m : Nat} {f : Ps n} (h : Dg f m) : co (ofc m f) = f := Ps.ext fun i => by
  by_cases hi : i < m
  · rw [co_get _ (by rw [ofc_len]; exact hi)]; simp [ofc]
  · rw [h i (by omega)]; exact co_dg _ i (by rw [ofc_len]; omega)
/-- x X^i -/
def Ps.mono (i : Nat) (x : El n) : Ps n := ⟨fun k => if k = i then x else 0⟩
theorem co_set (l : List (El n)) {i : Nat} (h : i < l.length) (x : El n) (k : Nat) : (co (l.set i x)).c k = if k = i then x else (co l).c k := by
  show (l.set i x).getD k 0 = _
  rw [List.getD_eq_getElem?_getD, List.getElem?_set]
  by_cases hk : k = i
  · subst hk; rw [if_pos rfl, if_pos h, if_pos rfl]; rfl
  · rw [if_neg (fun e => hk e.symm), if_neg hk]; rfl
theorem co_replicate (m : Nat) : co (List.replicate m (0 : El n)) = 0 := Ps.ext fun k => by
  show (List.replicate m (0 : El n)).getD k 0 = 0
  rw [List.getD_eq_getElem?_getD, List.getElem?_replicate]
  split <;> rfl
/-- The formal derivative. -/
def Ps.D (f : Ps n) : Ps n := ⟨fun i => if i % 2 = 0 then f.c (i + 1) else 0⟩
end Go.Fw

/- Powers of two; an element by its four digits. Plain maths. -/
set_option linter.unusedVariables false
namespace Go.Fw
/-- Is n a power of two from 1 to 65536? -/
def isP (n : Int) : Bool := decide (1 ≤ n ∧ n ≤ 65536 ∧ n.toNat &&& (n.toNat - 1) = 0)
theorem and_pred_pow (k : Nat) : 2 ^ k &&& (2 ^ k - 1) = 0 := by
  rw [Nat.and_two_pow_sub_one_eq_mod, Nat.mod_self]
theorem pow_of_and : ∀ (m n : Nat), n ≤ m → n ≠ 0 → n &&& (n - 1) = 0 → ∃ k, n = 2 ^ k := by
  intro m
  induction m with
  | zero => intro n h h0; omega
  | succ m ih =>
    intro n hn h0 h
    by_cases h1 : n % 2 = 1
    · have e : n = 1 := by
        refine Classical.byContradiction fun hne => ?_
        have h3 := congrArg (fun z => z / 2) h
        simp only [Nat.zero_div] at h3
        rw [Nat.and_div_two, show (n - 1) / 2 = n / 2 by omega, Nat.and_self] at h3
        omega
      exact ⟨0, e⟩
    · have h3 := congrArg (fun z => z / 2) h
      simp only [Nat.zero_div] at h3
      rw [Nat.and_div_two, show (n - 1) / 2 = n / 2 - 1 by omega] at h3
      obtain ⟨k, hk⟩ := ih (n / 2) (by omega) (by omega) h3
      exact ⟨k + 1, by rw [Nat.pow_succ, ← hk]; omega⟩
theorem isP_iff (n : Int) : isP n = true ↔ ∃ k : Nat, k ≤ 16 ∧ n = ((2 ^ k : Nat) : Int) := by
  unfold isP
  rw [decide_eq_true_iff]
  constructor
  · rintro ⟨h1, h2, h3⟩
    obtain ⟨k, hk⟩ := pow_of_and n.toNat n.toNat (Nat.le_refl _) (by omega) h3
    refine ⟨k, Nat.le_of_not_lt fun hlt => ?_, by omega⟩
    have : 2 ^ 17 ≤ 2 ^ k := Nat.pow_le_pow_right (by omega) hlt
    omega
  · rintro ⟨k, hk, rfl⟩
    have h1 := Nat.two_pow_pos k
    have h2 : 2 ^ k ≤ 2 ^ 16 := Nat.pow_le_pow_right (by omega) hk
    refine ⟨by omega, by omega, ?_⟩
    rw [Int.toNat_natCast]; exact and_pred_pow k
/-- The element of a number -/
def eN (n : Nat) : El 16 := ⟨BitVec.ofNat 16 n⟩
theorem eN_v (n : Nat) (h : n < 65536) : (eN n).v.toNat = n := by simp [eN]; omega
theorem eN_xor (a b : Nat) : eN (a ^^^ b) = eN a + eN b := El.ext (BitVec.ofNat_xor ..)
theorem eN_zero : eN 0 = 0 := rfl
theorem badd_and (m : BitVec 16) : BAdd (fun a : BitVec 16 => a &&& m) := fun a b => by
  apply BitVec.eq_of_getLsbD_eq; intro i hi
  simp only [BitVec.getLsbD_and, BitVec.getLsbD_xor]
  cases a.getLsbD i <;> cases b.getLsbD i <;> cases m.getLsbD i <;> rfl
theorem badd_shl (k : Nat) : BAdd (fun a : BitVec 16 => a <<< k) := fun a b => BitVec.shiftLeft_xor_distrib a b k
theorem digits (x : BitVec 16) : (x &&& 15#16) ^^^ (((x >>> 4) &&& 15#16) <<< 4) ^^^ (((x >>> 8) &&& 15#16) <<< 8) ^^^ ((x >>> 12) <<< 12) = x :=
  BAdd.ext (f := fun x => (x &&& 15#16) ^^^ (((x >>> 4) &&& 15#16) <<< 4) ^^^ (((x >>> 8) &&& 15#16) <<< 8) ^^^ ((x >>> 12) <<< 12))
    (BAdd.xor (BAdd.xor (BAdd.xor (badd_and _) (BAdd.comp (badd_shl 4) (BAdd.comp (badd_and _) (badd_shr 16 4)))) (BAdd.comp (badd_shl 8) (BAdd.comp (badd_and _) (badd_shr 16 8)))) (BAdd.comp (badd_shl 12) (badd_shr 16 12))) badd_id (by decide +kernel) x
/-- What the table of the n-th digit holds at x. -/
def want (c : El 16) (n x : Nat) : El 16 := c * eN (x <<< (4 * n))
theorem want_digits (c x : El 16) : want c 0 (x.v.toNat &&& 15) + want c 1 ((x.v.toNat >>> 4) &&& 15) + want c 2 ((x.v.toNat >>> 8) &&& 15) + want c 3 (x.v.toNat >>> 12) = c * x := by
  unfold want
  rw [← El.mul_add, ← El.mul_add, ← El.mul_add]
  congr 1
  apply El.ext
  rw [← eN_xor, ← eN_xor, ← eN_xor]
  have h := congrArg BitVec.toNat (digits x.v)
  have hx := x.v.isLt
  simp only [BitVec.toNat_xor, BitVec.toNat_and, BitVec.toNat_shiftLeft, BitVec.toNat_ushiftRight, BitVec.toNat_ofNat] at h
  apply BitVec.eq_of_toNat_eq
  show (BitVec.ofNat 16 _).toNat = _
  rw [BitVec.toNat_ofNat]
  have a1 : (x.v.toNat >>> 4) &&& 15 < 2 ^ 4 := Nat.and_lt_two_pow _ (by decide)
  have a2 : (x.v.toNat >>> 8) &&& 15 < 2 ^ 4 := Nat.and_lt_two_pow _ (by decide)
  have a3 : x.v.toNat >>> 12 < 2 ^ 4 := by rw [Nat.shiftRight_eq_div_pow]; omega
  have e1 : ((x.v.toNat >>> 4) &&& 15) <<< 4 % 2 ^ 16 = ((x.v.toNat >>> 4) &&& 15) <<< 4 := Nat.mod_eq_of_lt (by rw [Nat.shiftLeft_eq]; omega)
  have e2 : ((x.v.toNat >>> 8) &&& 15) <<< 8 % 2 ^ 16 = ((x.v.toNat >>> 8) &&& 15) <<< 8 := Nat.mod_eq_of_lt (by rw [Nat.shiftLeft_eq]; omega)
  have e3 : (x.v.toNat >>> 12) <<< 12 % 2 ^ 16 = (x.v.toNat >>> 12) <<< 12 := Nat.mod_eq_of_lt (by rw [Nat.shiftLeft_eq]; omega)
  have e4 : 15 % 2 ^ 16 = 15 := rfl
  rw [e4, e1, e2, e3] at h
  show ((x.v.toNat &&& 15) <<< 0 ^^^ ((x.v.toNat >>> 4) &&& 15) <<< 4 ^^^ ((x.v.toNat >>> 8) &&& 15) <<< 8 ^^^ (x.v.toNat >>> 12) <<< 12) % 2 ^ 16 = _
  rw [Nat.shiftLeft_zero, h, Nat.mod_eq_of_lt hx]
theorem want_step (c : El 16) (n : Nat) : ∀ (j low : Nat), j < 4 → low < 2 ^ j → want c n (2 ^ j + low) = want c n (2 ^ j) + want c n low := by
  intro j low hj hl
  have key : ∀ j < 4, ∀ low < 2 ^ j, 2 ^ j + low = 2 ^ j ^^^ low := by decide
  unfold want
  rw [key j hj low hl, Nat.shiftLeft_xor_distrib, eN_xor, El.mul_add]
theorem want_zero (c : El 16) (n : Nat) : want c n 0 = 0 := by unfold want; rw [Nat.zero_shiftLeft, eN_zero, El.mul_zero]
theorem co_app {n : Nat} [Fd n] (l r : List (El n)) (i : Nat) : (co (l ++ r)).c i = if i < l.length then (co l).c i else (co r).c (i - l.length) := by
  show (l ++ r).getD i 0 = if i < l.length then l.getD i 0 else r.getD (i - l.length) 0
  simp only [List.getD_eq_getElem?_getD]
  by_cases h : i < l.length
  · rw [if_pos h, List.getElem?_append_left h]
  · rw [if_neg h, List.getElem?_append_right (by omega)]
theorem co_drop {n : Nat} [Fd n] (l : List (El n)) (o i : Nat) : (co (l.drop o)).c i = (co l).c (o + i) := by
  show (l.drop o).getD i 0 = l.getD (o + i) 0
  simp only [List.getD_eq_getElem?_getD, List.getElem?_drop]
theorem co_takeL {n : Nat} [Fd n] (l : List (El n)) (o i : Nat) : (co (l.take o)).c i = if i < o then (co l).c i else 0 := by
  show (l.take o).getD i 0 = if i < o then l.getD i 0 else 0
  simp only [List.getD_eq_getElem?_getD, List.getElem?_take]
  split
  · rfl
  · rfl
end Go.Fw

/- The values elsewhere of the polynomial that has given values on one coset. Plain maths. -/
set_option linter.unusedVariables false
namespace Go.Fw
theorem itI_sh {a o : Nat} : ∀ {k : Nat} (f : Nat → El 16), o % 2 ^ k = 0 → ∀ i, itI a k f (o + i) = itI (a + o) k (fun j => f (o + j)) i := by
  intro k f ho i
  have h := itF_sh (a := a) (o := o) (k := k) (itI a k f) ho
  have e1 : (fun j => f (o + j)) = itF (a + o) k (fun j => itI a k f (o + j)) := funext fun j => by
    rw [← h j, itF_itI]
  rw [e1, itI_itF]
end Go.Fw
