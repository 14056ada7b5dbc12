import Derived.Test.YtbaljbadlfopgaaGfBW
import Derived.Test.YtbaljbadlfopgaaProg
import Derived.Test.YtbaljbadlfopgaaFwTW
import Derived.Test.YtbaljbadlfopgaaSMsW
set_option linter.all false
/- The powers of 2 in the field of 256 elements, and their logarithms. -/
set_option linter.unusedVariables false
namespace Go.Fw
/-- 2^j -/
def gp (j : Nat) : BitVec 8 := pw r8 1 j
def lg8 : List Nat := [0, 0, 1, 25, 2, 50, 26, 198, 3, 223, 51, 238, 27, 104, 199, 75, 4, 100, 224, 14, 52, 141, 239, 129, 28, 193, 105, 248, 200, 8, 76, 113, 5, 138, 101, 47, 225, 36, 15, 33, 53, 147, 142, 218, 240, 18, 130, 69, 29, 181, 194, 125, 106, 39, 249, 185, 201, 154, 9, 120, 77, 228, 114, 166, 6, 191, 139, 98, 102, 221, 48, 253, 226, 152, 37, 179, 16, 145, 34, 136, 54, 208, 148, 206, 143, 150, 219, 189, 241, 210, 19, 92, 131, 56, 70, 64, 30, 66, 182, 163, 195, 72, 126, 110, 107, 58, 40, 84, 250, 133, 186, 61, 202, 94, 155, 159, 10, 21, 121, 43, 78, 212, 229, 172, 115, 243, 167, 87, 7, 112, 192, 247, 140, 128, 99, 13, 103, 74, 222, 237, 49, 197, 254, 24, 227, 165, 153, 119, 38, 184, 180, 124, 17, 68, 146, 217, 35, 32, 137, 46, 55, 63, 209, 91, 149, 188, 207, 205, 144, 135, 151, 178, 220, 252, 190, 97, 242, 86, 211, 171, 20, 42, 93, 158, 132, 60, 57, 83, 71, 109, 65, 162, 31, 45, 67, 216, 183, 123, 164, 118, 196, 23, 73, 236, 127, 12, 111, 246, 108, 161, 59, 82, 41, 157, 85, 170, 251, 96, 134, 177, 187, 204, 62, 90, 203, 89, 95, 176, 156, 169, 160, 81, 11, 245, 22, 235, 122, 117, 44, 215, 79, 174, 213, 233, 230, 231, 173, 232, 116, 214, 244, 234, 168, 80, 88, 175]
theorem gp_lg : ∀ a : Fin 256, a.val ≠ 0 → gp (lg8.getD a.val 0) = BitVec.ofNat 8 a.val ∧ lg8.getD a.val 0 < 255 := by decide +kernel
theorem gp_ex (a : BitVec 8) (h : a ≠ 0) : ∃ j, j < 255 ∧ gp j = a := by
  have hn : a.toNat ≠ 0 := fun e => h (BitVec.eq_of_toNat_eq e)
  obtain ⟨h1, h2⟩ := gp_lg ⟨a.toNat, a.isLt⟩ hn
  exact ⟨_, h2, by rw [h1]; simp⟩
theorem gp_255 : gp 255 = 1 := by decide +kernel
theorem gp_ne : ∀ d : Fin 255, d.val ≠ 0 → gp d.val ≠ 1 := by decide +kernel
theorem bmul_pw (a b : BitVec 8) (j : Nat) : pw r8 (bmul r8 a b) j = bmul r8 (pw r8 a j) b := by
  unfold bmul
  have hs : ∀ (f : Nat → BitVec 8) m, pw r8 (bsum f m) j = bsum (fun i => pw r8 (f i) j) m := by
    intro f m
    induction m with
    | zero => exact pw_zero r8 j
    | succ m ih => simp only [bsum, pw_xor, ih]
  rw [hs]
  refine bsum_congr 8 fun i _ => ?_
  rw [pw_sel, pw_add, pw_add, Nat.add_comm]
theorem gp_mul (i j : Nat) : bmul r8 (gp i) (gp j) = gp (i + j) := by
  rw [c8]
  have := bmul_pw 1 (gp i) j
  rw [c8 1, o8] at this
  unfold gp at *
  rw [← this, pw_add]
theorem gp_nz (j : Nat) : gp j ≠ 0 := by
  intro h
  induction j with
  | zero => exact absurd h (by decide)
  | succ j ih =>
    have h2 : ∀ a : BitVec 8, mx r8 a = 0 → a = 0 := by decide +kernel
    exact ih (h2 _ h)
theorem gp_wrap (j : Nat) : gp (255 + j) = gp j := by rw [← gp_mul, gp_255, c8, o8]
theorem gp_inj {i j : Nat} (hi : i < 255) (hj : j < 255) (h : gp i = gp j) : i = j := by
  have key : ∀ i j : Nat, i ≤ j → j < 255 → gp i = gp j → i = j := by
    intro i j hij hj h
    by_cases he : i = j
    · exact he
    exfalso
    refine gp_ne ⟨j - i, by omega⟩ (by show j - i ≠ 0; omega) ?_
    show gp (j - i) = 1
    have h1 : gp j = bmul r8 (gp i) (gp (j - i)) := by rw [gp_mul]; congr 1; omega
    rw [← h] at h1
    have h2 : (⟨gp i⟩ : El 8) * (⟨gp (j - i)⟩ + 1) = 0 := by
      rw [El.mul_add, El.mul_one]
      apply El.ext
      show bmul r8 (gp i) (gp (j - i)) ^^^ gp i = 0
      rw [← h1, BitVec.xor_self]
      rfl
    rcases El.mul_eq_zero.1 h2 with h3 | h3
    · exact absurd (congrArg El.v h3) (gp_nz i)
    · exact congrArg El.v (El.eq_of_add h3)
  rcases Nat.le_total i j with hij | hij
  · exact key i j hij hj h
  · exact (key j i hij hi h.symm).symm
theorem mx8_val : ∀ s : BitVec 8, (if s.msb then (s.toNat <<< 1) ^^^ 285 else s.toNat <<< 1) = (mx r8 s).toNat := by decide +kernel
theorem and256 : ∀ s : BitVec 8, (s.toNat <<< 1) &&& 256 = if s.msb then 256 else 0 := by decide +kernel
theorem bsum_ext_zero {n : Nat} (f : Nat → BitVec n) (m : Nat) : ∀ k, (∀ i, m ≤ i → i < m + k → f i = 0) → bsum f (m + k) = bsum f m
  | 0, _ => rfl
  | k + 1, h => by
    show bsum f (m + k) ^^^ f (m + k) = _
    rw [bsum_ext_zero f m k (fun i h1 h2 => h i h1 (by omega)), h (m + k) (by omega) (by omega)]
    exact BitVec.xor_zero
end Go.Fw

/- Series and polynomials over the two fields. Plain maths. -/
set_option linter.unusedVariables false
set_option linter.unusedSectionVars false
namespace Go.Fw
variable {n : Nat}

/-- Coefficients. -/
structure Ps (n : Nat) where
  c : Nat → El n
theorem Ps.ext {f g : Ps n} (h : ∀ i, f.c i = g.c i) : f = g := by cases f; cases g; congr 1; exact funext h
def Ps.sh (f : Ps n) : Ps n := ⟨fun i => f.c (i + 1)⟩
instance : Add (Ps n) := ⟨fun f g => ⟨fun i => f.c i + g.c i⟩⟩
instance : Zero (Ps n) := ⟨⟨fun _ => 0⟩⟩
theorem Ps.add_c (f g : Ps n) (i : Nat) : (f + g).c i = f.c i + g.c i := rfl
theorem Ps.zero_c (i : Nat) : (0 : Ps n).c i = 0 := rfl
theorem Ps.add_comm (f g : Ps n) : f + g = g + f := Ps.ext fun i => El.add_comm _ _
theorem Ps.add_assoc (f g h : Ps n) : f + g + h = f + (g + h) := Ps.ext fun i => El.add_assoc _ _ _
instance : Std.Commutative (α := Ps n) (· + ·) := ⟨Ps.add_comm⟩
instance : Std.Associative (α := Ps n) (· + ·) := ⟨Ps.add_assoc⟩
theorem Ps.add_self (f : Ps n) : f + f = 0 := Ps.ext fun i => El.add_self _
theorem Ps.add_zero (f : Ps n) : f + 0 = f := Ps.ext fun i => El.add_zero _
theorem Ps.zero_add (f : Ps n) : 0 + f = f := Ps.ext fun i => El.zero_add _
theorem Ps.add_cancel (f g : Ps n) : f + g + g = f := by rw [Ps.add_assoc, Ps.add_self, Ps.add_zero]
theorem Ps.eq_of_add {f g : Ps n} (h : f + g = 0) : f = g := by
  have := Ps.add_cancel f g
  rw [h, Ps.zero_add] at this
  exact this.symm
variable [F : Fd n]
def mc (f g : Ps n) : Nat → El n
  | 0 => f.c 0 * g.c 0
  | k + 1 => f.c 0 * g.c (k + 1) + mc f.sh g k
instance : Mul (Ps n) := ⟨fun f g => ⟨mc f g⟩⟩
instance : One (Ps n) := ⟨⟨fun i => if i = 0 then 1 else 0⟩⟩
/-- A constant. -/
def Ps.C (a : El n) : Ps n := ⟨fun i => if i = 0 then a else 0⟩
theorem Ps.mul_0 (f g : Ps n) : (f * g).c 0 = f.c 0 * g.c 0 := rfl
theorem Ps.mul_s (f g : Ps n) (k : Nat) : (f * g).c (k + 1) = f.c 0 * g.c (k + 1) + (f.sh * g).c k := rfl
theorem Ps.sh_c (f : Ps n) (i : Nat) : f.sh.c i = f.c (i + 1) := rfl
theorem Ps.mul_add_c (f g h : Ps n) : ∀ k, (f * (g + h)).c k = (f * g).c k + (f * h).c k := by
  intro k
  induction k generalizing f with
  | zero => exact El.mul_add _ _ _
  | succ k ih => simp only [Ps.mul_s, ih, Ps.add_c, El.mul_add]; ac_rfl
theorem Ps.add_mul_c (f g h : Ps n) : ∀ k, ((f + g) * h).c k = (f * h).c k + (g * h).c k := by
  intro k
  induction k generalizing f g with
  | zero => exact El.add_mul _ _ _
  | succ k ih =>
    simp only [Ps.mul_s, Ps.add_c, El.add_mul]
    rw [show (f + g).sh = f.sh + g.sh from rfl, ih]
    ac_rfl
theorem Ps.mul_add (f g h : Ps n) : f * (g + h) = f * g + f * h := Ps.ext (Ps.mul_add_c f g h)
theorem Ps.add_mul (f g h : Ps n) : (f + g) * h = f * h + g * h := Ps.ext (Ps.add_mul_c f g h)
theorem Ps.mul_s' (f g : Ps n) (k : Nat) : (f * g).c (k + 1) = f.c (k + 1) * g.c 0 + (f * g.sh).c k := by
  induction k generalizing f with
  | zero => simp only [Ps.mul_s, Ps.mul_0, Ps.sh_c]; exact El.add_comm _ _
  | succ k ih => rw [Ps.mul_s, ih, Ps.mul_s f g.sh]; simp only [Ps.sh_c]; ac_rfl
theorem Ps.mul_comm (f g : Ps n) : f * g = g * f := by
  refine Ps.ext fun k => ?_
  induction k generalizing f g with
  | zero => exact El.mul_comm _ _
  | succ k ih => rw [Ps.mul_s, Ps.mul_s', ih, El.mul_comm]
theorem Ps.smul_c (a : El n) (f g : Ps n) : ∀ k, ((⟨fun i => a * f.c i⟩ : Ps n) * g).c k = a * (f * g).c k := by
  intro k
  induction k generalizing f with
  | zero => exact El.mul_assoc _ _ _
  | succ k ih =>
    rw [Ps.mul_s, Ps.mul_s, El.mul_add]
    rw [show (⟨fun i => a * f.c i⟩ : Ps n).sh = ⟨fun i => a * f.sh.c i⟩ from rfl, ih, El.mul_assoc]
theorem Ps.sh_mul (f g : Ps n) : (f * g).sh = (⟨fun i => f.c 0 * g.sh.c i⟩ : Ps n) + f.sh * g := Ps.ext fun k => rfl
theorem Ps.mul_assoc (f g h : Ps n) : f * g * h = f * (g * h) := by
  refine Ps.ext fun k => ?_
  induction k generalizing f g h with
  | zero => exact El.mul_assoc _ _ _
  | succ k ih =>
    rw [Ps.mul_s, Ps.sh_mul, Ps.add_mul, Ps.add_c, Ps.smul_c, ih, Ps.mul_s f, Ps.mul_s g, El.mul_add, Ps.mul_0, El.mul_assoc, El.add_assoc]
instance : Std.Commutative (α := Ps n) (· * ·) := ⟨Ps.mul_comm⟩
instance : Std.Associative (α := Ps n) (· * ·) := ⟨Ps.mul_assoc⟩
theorem Ps.zero_mul (f : Ps n) : 0 * f = 0 := by
  have h := Ps.add_mul 0 0 f
  rw [Ps.add_self, Ps.add_self] at h
  exact h
theorem Ps.mul_zero (f : Ps n) : f * 0 = 0 := by rw [Ps.mul_comm, Ps.zero_mul]
theorem Ps.C_mul (a : El n) (f : Ps n) (k : Nat) : (Ps.C a * f).c k = a * f.c k := by
  cases k with
  | zero => rfl
  | succ k =>
    rw [Ps.mul_s, show (Ps.C a : Ps n).sh = 0 from Ps.ext fun i => by show (if i + 1 = 0 then a else 0) = 0; simp, Ps.zero_mul, Ps.zero_c, El.add_zero]; rfl
theorem Ps.one_mul (f : Ps n) : 1 * f = f := Ps.ext fun k => by
  rw [show (1 : Ps n) = Ps.C 1 from rfl, Ps.C_mul, El.one_mul]
theorem Ps.mul_one (f : Ps n) : f * 1 = f := by rw [Ps.mul_comm, Ps.one_mul]
/-- X times f -/
def Ps.X (f : Ps n) : Ps n := ⟨fun i => match i with | 0 => 0 | i + 1 => f.c i⟩
theorem Ps.X_mul (f g : Ps n) : f.X * g = (f * g).X := Ps.ext fun k => by
  cases k with
  | zero => exact El.zero_mul _
  | succ k => rw [Ps.mul_s]; show 0 * _ + (f * g).c k = _; rw [El.zero_mul, El.zero_add]; rfl
theorem Ps.split (f : Ps n) : f = Ps.C (f.c 0) + f.sh.X := Ps.ext fun k => by
  cases k with
  | zero => show f.c 0 = f.c 0 + 0; rw [El.add_zero]
  | succ k => show f.c (k + 1) = 0 + f.c (k + 1); rw [El.zero_add]

/-! Degrees -/
/-- f's degree is below d. -/
def Dg (f : Ps n) (d : Nat) : Prop := ∀ i, d ≤ i → f.c i = 0
theorem Dg.mono {f : Ps n} {d e : Nat} (h : Dg f d) (hd : d ≤ e) : Dg f e := fun i hi => h i (by omega)
theorem Dg.add {f g : Ps n} {d : Nat} (hf : Dg f d) (hg : Dg g d) : Dg (f + g) d := fun i hi => by rw [Ps.add_c, hf i hi, hg i hi, El.add_zero]
theorem Dg.zero {f : Ps n} (h : Dg f 0) : f = 0 := Ps.ext fun i => h i (by omega)
theorem Dg.sh {f : Ps n} {d : Nat} (h : Dg f (d + 1)) : Dg f.sh d := fun i hi => h (i + 1) (by omega)
theorem Dg.mul {f g : Ps n} : ∀ {a b : Nat}, Dg f a → Dg g b → Dg (f * g) (a + b - 1)
  | 0, b, hf, hg => by rw [hf.zero, Ps.zero_mul]; exact fun i _ => rfl
  | a + 1, b, hf, hg => fun i hi => by
    cases i with
    | zero =>
      have : b = 0 := by omega
      subst this
      rw [hg.zero, Ps.mul_zero]; rfl
    | succ i =>
      rw [Ps.mul_s, hg (i + 1) (by omega), El.mul_zero, El.zero_add]
      exact Dg.mul hf.sh hg i (by omega)
/-- The highest coefficient of a product. -/
theorem Ps.mul_top {f g : Ps n} : ∀ {a b : Nat}, Dg f (a + 1) → Dg g (b + 1) → (f * g).c (a + b) = f.c a * g.c b
  | 0, b, hf, hg => by
    have h1 : f.sh = 0 := hf.sh.zero
    cases b with
    | zero => rfl
    | succ b => rw [Nat.zero_add, Ps.mul_s, h1, Ps.zero_mul, Ps.zero_c, El.add_zero]
  | a + 1, b, hf, hg => by
    rw [show a + 1 + b = (a + b) + 1 by omega, Ps.mul_s, hg (a + b + 1) (by omega), El.mul_zero, El.zero_add]
    exact Ps.mul_top hf.sh hg

/-! Values -/
def evn (f : Ps n) (x : El n) : Nat → El n
  | 0 => 0
  | d + 1 => f.c 0 + x * evn f.sh x d
theorem evn_zero (x : El n) : ∀ d, evn (0 : Ps n) x d = 0
  | 0 => rfl
  | d + 1 => by show 0 + x * evn (0 : Ps n) x d = 0; rw [evn_zero x d, El.mul_zero, El.add_zero]
theorem evn_add (x : El n) : ∀ (d : Nat) (f g : Ps n), evn (f + g) x d = evn f x d + evn g x d
  | 0, f, g => (El.add_zero 0).symm
  | d + 1, f, g => by
    show f.c 0 + g.c 0 + x * evn (f.sh + g.sh) x d = f.c 0 + x * evn f.sh x d + (g.c 0 + x * evn g.sh x d)
    rw [evn_add x d, El.mul_add]; ac_rfl
theorem evn_more {f : Ps n} {x : El n} : ∀ {d : Nat} (e : Nat), Dg f d → evn f x (d + e) = evn f x d
  | 0, e, h => by rw [h.zero, evn_zero, evn_zero]
  | d + 1, e, h => by
    rw [show d + 1 + e = (d + e) + 1 by omega]
    show f.c 0 + x * evn f.sh x (d + e) = f.c 0 + x * evn f.sh x d
    rw [evn_more e h.sh]
theorem evn_eq {f : Ps n} {x : El n} {d e : Nat} (hd : Dg f d) (he : Dg f e) : evn f x d = evn f x e := by
  rcases Nat.le_total d e with h | h
  · have := evn_more (x := x) (e - d) hd
    rw [show d + (e - d) = e by omega] at this
    exact this.symm
  · have := evn_more (x := x) (d - e) he
    rw [show e + (d - e) = d by omega] at this
    exact this
theorem evn_smul (a x : El n) : ∀ (d : Nat) (f : Ps n), evn (⟨fun i => a * f.c i⟩ : Ps n) x d = a * evn f x d
  | 0, f => (El.mul_zero a).symm
  | d + 1, f => by
    show a * f.c 0 + x * evn (⟨fun i => a * f.sh.c i⟩ : Ps n) x d = a * (f.c 0 + x * evn f.sh x d)
    rw [evn_smul a x d, El.mul_add]; ac_rfl
theorem evn_mul (x : El n) : ∀ {a b : Nat} {f g : Ps n}, Dg f a → Dg g b → evn (f * g) x (a + b) = evn f x a * evn g x b
  | 0, b, f, g, hf, hg => by rw [hf.zero, Ps.zero_mul, evn_zero, evn_zero, El.zero_mul]
  | a + 1, b, f, g, hf, hg => by
    rw [show a + 1 + b = (a + b) + 1 by omega]
    show f.c 0 * g.c 0 + x * evn (f * g).sh x (a + b) = (f.c 0 + x * evn f.sh x a) * evn g x b
    rw [Ps.sh_mul, evn_add, evn_smul, evn_mul x hf.sh hg]
    have hg1 : evn g x b = g.c 0 + x * evn g.sh x (a + b) := by
      have := evn_more (x := x) (a + 1) hg
      rw [← this, show b + (a + 1) = (a + b) + 1 by omega]; rfl
    have e : f.c 0 * evn g x b = f.c 0 * g.c 0 + x * (f.c 0 * evn g.sh x (a + b)) := by rw [hg1, El.mul_add]; ac_rfl
    rw [El.add_mul, El.mul_add, e]
    ac_rfl

/-! Lists -/
def co (l : List (El n)) : Ps n := ⟨fun i => l.getD i 0⟩
theorem co_nil : co ([] : List (El n)) = 0 := rfl
theorem co_dg (l : List (El n)) : Dg (co l) l.length := fun i hi => by
  show l.getD i 0 = 0
  rw [List.getD_eq_getElem?_getD, List.getElem?_eq_none hi]; rfl
theorem co_get (l : List (El n)) {i : Nat} (h : i < l.length) : (co l).c i = l[i] := by
  show l.getD i 0 = _
  rw [List.getD_eq_getElem?_getD, List.getElem?_eq_getElem h]; rfl
theorem co_ext {l m : List (El n)} (hl : l.length = m.length) (h : co l = co m) : l = m := by
  refine List.ext_getElem hl fun i h1 h2 => ?_
  rw [← co_get l h1, ← co_get m h2, h]
theorem co_take {l : List (El n)} {k : Nat} (h : ∀ i, k ≤ i → (co l).c i = 0) : co (l.take k) = co l := Ps.ext fun i => by
  by_cases hi : i < k
  · show (l.take k).getD i 0 = l.getD i 0
    rw [List.getD_eq_getElem?_getD, List.getElem?_take, if_pos hi, List.getD_eq_getElem?_getD]
  · rw [h i (by omega)]
    exact co_dg (l.take k) i (by simp; omega)
theorem co_append_zeros (l : List (El n)) (k : Nat) : co (l ++ List.replicate k 0) = co l := Ps.ext fun i => by
  show (l ++ List.replicate k 0).getD i 0 = l.getD i 0
  simp only [List.getD_eq_getElem?_getD, List.getElem?_append, List.getElem?_replicate]
  split
  · rfl
  · rename_i h
    rw [List.getElem?_eq_none (by omega)]
    split <;> rfl
/-- The length without the zeros at the end. -/
def tln : List (El n) → Nat
  | [] => 0
  | x :: l => if tln l = 0 then (if x = 0 then 0 else 1) else tln l + 1
theorem tln_le : ∀ l : List (El n), tln l ≤ l.length
  | [] => Nat.le_refl _
  | x :: l => by have := tln_le l; unfold tln; simp only [List.length_cons]; split <;> (try split) <;> omega
theorem tln_dg : ∀ l : List (El n), Dg (co l) (tln l)
  | [] => fun i _ => rfl
  | x :: l => fun i hi => by
    have ih := tln_dg l
    unfold tln at hi
    cases i with
    | zero =>
      split at hi
      · split at hi
        · rename_i h; exact h
        · omega
      · omega
    | succ i =>
      show (co l).c i = 0
      refine ih i ?_
      split at hi
      · omega
      · omega
theorem tln_top : ∀ (l : List (El n)) (k : Nat), tln l = k + 1 → (co l).c k ≠ 0
  | [], k, h => by simp [tln] at h
  | x :: l, k, h => by
    unfold tln at h
    split at h
    · split at h
      · omega
      · rename_i h2
        have : k = 0 := by omega
        subst this
        exact h2
    · have : k = tln l - 1 + 1 := by omega
      rw [this]
      exact tln_top l (tln l - 1) (by omega)
theorem tln_of {l : List (El n)} {k : Nat} (h1 : Dg (co l) k) (h2 : k = 0 ∨ (co l).c (k - 1) ≠ 0) : tln l = k := by
  rcases Nat.lt_trichotomy (tln l) k with h | h | h
  · rcases h2 with h2 | h2
    · omega
    · exact absurd (tln_dg l (k - 1) (by omega)) h2
  · exact h
  · exact absurd (h1 (tln l - 1) (by omega)) (tln_top l (tln l - 1) (by omega))
/-- without the zeros at the end -/
def tr (l : List (El n)) : List (El n) := l.take (tln l)
theorem tr_co (l : List (El n)) : co (tr l) = co l := co_take (tln_dg l)
theorem tr_len (l : List (El n)) : (tr l).length = tln l := by unfold tr; rw [List.length_take]; have := tln_le l; omega
theorem tln_co {l m : List (El n)} (h : co l = co m) : tln l = tln m := by
  refine tln_of (by rw [h]; exact tln_dg m) ?_
  by_cases h0 : tln m = 0
  · exact Or.inl h0
  · right; rw [h]; exact tln_top m _ (by omega)
theorem tr_eq {l m : List (El n)} (h : co l = co m) : tr l = tr m := co_ext (by rw [tr_len, tr_len, tln_co h]) (by rw [tr_co, tr_co, h])
theorem tr_tr (l : List (El n)) : tr (tr l) = tr l := tr_eq (tr_co l)
/-- The first m coefficients. -/
def ofc (m : Nat) (f : Ps n) : List (El n) := (List.range m).map f.c
theorem ofc_len (m : Nat) (f : Ps n) : (ofc m f).length = m := by simp [ofc]
theorem ofc_co {m : Nat} {f : Ps n} (h : Dg f m) : co (ofc m f) = f := Ps.ext fun i => by
  by_cases hi : i < m
  · rw [co_get _ (by rw [ofc_len]; exact hi)]; simp [ofc]
  · rw [h i (by omega)]; exact co_dg _ i (by rw [ofc_len]; omega)
/-- x X^i -/
def Ps.mono (i : Nat) (x : El n) : Ps n := ⟨fun k => if k = i then x else 0⟩
theorem Ps.mono_mul (x : El n) (g : Ps n) : ∀ (i k : Nat), (Ps.mono i x * g).c k = if i ≤ k then x * g.c (k - i) else 0
  | 0, k => by
    rw [if_pos (by omega), Nat.sub_zero]
    exact Ps.C_mul x g k
  | i + 1, k => by
    have e : (Ps.mono (i + 1) x : Ps n) = (Ps.mono i x).X := Ps.ext fun j => by
      cases j with
      | zero => show (if 0 = i + 1 then x else 0) = 0; rw [if_neg (by omega)]
      | succ j => show (if j + 1 = i + 1 then x else 0) = (if j = i then x else 0); simp
    rw [e, Ps.X_mul]
    cases k with
    | zero => rw [if_neg (by omega)]; rfl
    | succ k =>
      show (Ps.mono i x * g).c k = _
      rw [Ps.mono_mul x g i k]
      by_cases h : i ≤ k
      · rw [if_pos h, if_pos (by omega), show k + 1 - (i + 1) = k - i by omega]
      · rw [if_neg h, if_neg (by omega)]
theorem co_take_succ (l : List (El n)) {i : Nat} (h : i < l.length) : co (l.take (i + 1)) = co (l.take i) + Ps.mono i l[i] := Ps.ext fun k => by
  show (l.take (i + 1)).getD k 0 = (l.take i).getD k 0 + (if k = i then l[i] else 0)
  simp only [List.getD_eq_getElem?_getD, List.getElem?_take]
  by_cases h1 : k < i
  · rw [if_pos (by omega), if_pos h1, if_neg (by omega), El.add_zero]
  · by_cases h2 : k = i
    · subst h2
      rw [if_pos (by omega), if_neg (by omega), if_pos rfl, List.getElem?_eq_getElem h]
      exact (El.zero_add _).symm
    · rw [if_neg (by omega), if_neg (by omega), if_neg h2]
      exact (El.add_zero _).symm
theorem mono_zero (i : Nat) : (Ps.mono i 0 : Ps n) = 0 := Ps.ext fun k => by show (if k = i then (0 : El n) else 0) = 0; split <;> rfl
theorem co_set (l : List (El n)) {i : Nat} (h : i < l.length) (x : El n) (k : Nat) : (co (l.set i x)).c k = if k = i then x else (co l).c k := by
  show (l.set i x).getD k 0 = _
  rw [List.getD_eq_getElem?_getD, List.getElem?_set]
  by_cases hk : k = i
  · subst hk; rw [if_pos rfl, if_pos h, if_pos rfl]; rfl
  · rw [if_neg (fun e => hk e.symm), if_neg hk]; rfl
theorem co_replicate (m : Nat) : co (List.replicate m (0 : El n)) = 0 := Ps.ext fun k => by
  show (List.replicate m (0 : El n)).getD k 0 = 0
  rw [List.getD_eq_getElem?_getD, List.getElem?_replicate]
  split <;> rfl
theorem tr_mul {l m p : List (El n)} (hp : co p = co l * co m) (hl : tln l ≠ 0) (hm : tln m ≠ 0) (hlen : p.length = tln l + tln m - 1) : tr p = p := by
  have h1 : (co l * co m).c (tln l - 1 + (tln m - 1)) = (co l).c (tln l - 1) * (co m).c (tln m - 1) :=
    Ps.mul_top (by rw [show tln l - 1 + 1 = tln l by omega]; exact tln_dg l) (by rw [show tln m - 1 + 1 = tln m by omega]; exact tln_dg m)
  have h2 : tln p = p.length := by
    refine tln_of (co_dg p) (Or.inr ?_)
    rw [hp, hlen, show tln l + tln m - 1 - 1 = tln l - 1 + (tln m - 1) by omega, h1]
    intro h
    rcases El.mul_eq_zero.1 h with h | h
    · exact tln_top l _ (by omega) h
    · exact tln_top m _ (by omega) h
  unfold tr
  rw [h2, List.take_length]
theorem co_zero_of_tln {l : List (El n)} (h : tln l = 0) : co l = 0 := (show Dg (co l) 0 by rw [← h]; exact tln_dg l).zero
/-- The formal derivative. -/
def Ps.D (f : Ps n) : Ps n := ⟨fun i => if i % 2 = 0 then f.c (i + 1) else 0⟩
/-- The value, by Horner. -/
def evl : List (El n) → El n → El n
  | [], _ => 0
  | a :: l, x => a + x * evl l x
theorem evl_co (x : El n) : ∀ l : List (El n), evl l x = evn (co l) x l.length
  | [] => rfl
  | a :: l => by
    show a + x * evl l x = (co (a :: l)).c 0 + x * evn (co (a :: l)).sh x l.length
    rw [evl_co x l]; rfl
theorem evl_drop (x : El n) (l : List (El n)) {k : Nat} (h : k < l.length) : evl (l.drop k) x = l[k] + x * evl (l.drop (k + 1)) x := by
  rw [List.drop_eq_getElem_cons h]; rfl
theorem evl_eq (x : El n) {l m : List (El n)} (h : co l = co m) : evl l x = evl m x := by
  rw [evl_co, evl_co, h]
  exact evn_eq (by rw [← h]; exact co_dg l) (co_dg m)
/-- X + x -/
def lin (x : El n) : Ps n := ⟨fun k => if k = 0 then x else if k = 1 then 1 else 0⟩
theorem lin_mul (x : El n) (p : Ps n) (k : Nat) : (lin x * p).c k = x * p.c k + (if k = 0 then 0 else p.c (k - 1)) := by
  have e : (lin x : Ps n) = Ps.C x + Ps.X 1 := Ps.ext fun i => by
    show (if i = 0 then x else if i = 1 then 1 else 0) = (if i = 0 then x else 0) + (match i with | 0 => 0 | i + 1 => (if i = 0 then 1 else 0))
    rcases i with _ | _ | i
    · simp [El.add_zero]
    · simp [El.zero_add]
    · simp [El.zero_add]
  rw [e, Ps.add_mul, Ps.add_c, Ps.C_mul, Ps.X_mul, Ps.one_mul]
  cases k <;> rfl
/-- The product of all X + x. -/
def vps (l : List (El n)) : Ps n := l.foldl (fun p x => lin x * p) 1
theorem vps_take (l : List (El n)) {i : Nat} (h : i < l.length) : vps (l.take (i + 1)) = lin l[i] * vps (l.take i) := by
  unfold vps
  rw [List.take_add_one, List.getElem?_eq_getElem h, List.foldl_append]
  rfl
theorem lin_dg (x : El n) : Dg (lin x) 2 := fun i hi => by show (if i = 0 then x else if i = 1 then (1 : El n) else 0) = 0; rw [if_neg (by omega), if_neg (by omega)]
end Go.Fw

set_option linter.unusedVariables false
set_option linter.unusedSimpArgs false
set_option maxRecDepth 100000
set_option maxHeartbeats 1000000
namespace Go.Proofs.Ytbaljbadlfopgaa.Fw
open Go Go.Fw Go.Proofs
attribute [local irreducible] stepI
def c_gf8_Mul : C := .seq (.ops [⟨0,some 4,none,.mov (.c (.int .u8 0)),[]⟩]) (.seq (.ops [⟨0,some 7,none,.mov (.t 0),[]⟩,⟨1,some 8,none,.cnv .u64 (.t 7),[]⟩,⟨2,some 5,none,.mov (.t 8),[]⟩,⟨3,some 6,none,.mov (.c (.int .u64 0)),[]⟩]) (.seq (.block 0 (.loop (.seq (.seq (.ops [⟨0,some 9,none,.mov (.t 1),[]⟩,⟨1,some 10,none,.bin .neq (.t 9) (.c (.int .u8 0)),[]⟩]) (.ite (.t 10) .skip (.exit 0))) (.seq (.block 1 (.seq (.seq (.ops [⟨0,some 13,none,.mov (.t 1),[]⟩,⟨1,some 14,none,.bin .and (.t 13) (.c (.int .u8 1)),[]⟩,⟨2,some 15,none,.bin .neq (.t 14) (.c (.int .u8 0)),[]⟩]) (.ite (.t 15) (.ops [⟨0,some 16,none,.mov (.t 6),[]⟩,⟨1,some 17,none,.mov (.t 5),[]⟩,⟨2,some 18,none,.bin .xor (.t 16) (.t 17),[]⟩,⟨3,some 6,none,.mov (.t 18),[]⟩]) .skip)) (.seq (.ops [⟨0,some 19,none,.mov (.t 5),[]⟩,⟨1,some 20,none,.bin .shl (.t 19) (.c (.int .u64 1)),[]⟩,⟨2,some 5,none,.mov (.t 20),[]⟩]) (.seq (.ops [⟨0,some 21,none,.mov (.t 5),[]⟩,⟨1,some 22,none,.bin .and (.t 21) (.c (.int .u64 256)),[]⟩,⟨2,some 23,none,.bin .neq (.t 22) (.c (.int .u64 0)),[]⟩]) (.ite (.t 23) (.ops [⟨0,some 24,none,.mov (.t 5),[]⟩,⟨1,some 25,none,.bin .xor (.t 24) (.c (.int .u64 285)),[]⟩,⟨2,some 5,none,.mov (.t 25),[]⟩]) .skip))))) (.ops [⟨0,some 11,none,.mov (.t 1),[]⟩,⟨1,some 12,none,.bin .shr (.t 11) (.c (.int .u64 1)),[]⟩,⟨2,some 1,none,.mov (.t 12),[]⟩]))))) (.seq (.ops [⟨0,some 26,none,.mov (.t 6),[]⟩,⟨1,some 27,none,.cnv .u8 (.t 26),[]⟩,⟨2,some 4,none,.mov (.t 27),[]⟩]) .ret)))
attribute [irreducible] c_gf8_Mul
theorem run_gf8_Mul {args : List Value} {w : World} {K : Value → World → Prop} (hn : args.length ≤ 28) (h : WP Try.prog c_gf8_Mul (endQ [.t 4] K) (initT args) w) : CallV Try.prog 53 args w K :=
  call_of follows Try.func53 (by kernel_rfl) (by kernel_rfl) hn h
def c_polys_Over8 : C := .seq (.ops [⟨0,some 0,none,.mov (.c (.pointer none)),[]⟩]) (.seq (.ops [⟨0,some 2,none,.call (.c (.func (.func 84) #[] #[])) [],[]⟩,⟨1,some 1,none,.mov (.t 2),[]⟩]) (.seq (.ops [⟨0,some 3,none,.mov (.t 1),[]⟩,⟨1,some 4,none,.mkf 85 [.t 3] [],[]⟩,⟨2,some 5,none,.mov (.t 1),[]⟩,⟨3,some 6,none,.mkf 86 [.t 5] [],[]⟩,⟨4,some 7,none,.bld [.nilFunc,.nilFunc] [(0,(1,.t 4)),(1,(1,.t 6))],[]⟩,⟨5,some 8,none,.box 152 (.t 7),[]⟩,⟨6,some 0,none,.mov (.t 8),[]⟩]) .ret))
attribute [irreducible] c_polys_Over8
theorem run_polys_Over8 {args : List Value} {w : World} {K : Value → World → Prop} (hn : args.length ≤ 9) (h : WP Try.prog c_polys_Over8 (endQ [.t 0] K) (initT args) w) : CallV Try.prog 55 args w K :=
  call_of follows Try.func55 (by kernel_rfl) (by kernel_rfl) hn h
def c_gf8_New : C := .seq (.ops [⟨0,some 0,none,.mov (.c (.pointer none)),[]⟩]) (.seq (.ops [⟨0,some 4,none,.bld [.int .u8 0,.int .u8 0,.int .u8 0,.int .u8 0,.int .u8 0,.int .u8 0,.int .u8 0,.int .u8 0,.int .u8 0,.int .u8 0,.int .u8 0,.int .u8 0,.int .u8 0,.int .u8 0,.int .u8 0,.int .u8 0,.int .u8 0,.int .u8 0,.int .u8 0,.int .u8 0,.int .u8 0,.int .u8 0,.int .u8 0,.int .u8 0,.int .u8 0,.int .u8 0,.int .u8 0,.int .u8 0,.int .u8 0,.int .u8 0,.int .u8 0,.int .u8 0,.int .u8 0,.int .u8 0,.int .u8 0,.int .u8 0,.int .u8 0,.int .u8 0,.int .u8 0,.int .u8 0,.int .u8 0,.int .u8 0,.int .u8 0,.int .u8 0,.int .u8 0,.int .u8 0,.int .u8 0,.int .u8 0,.int .u8 0,.int .u8 0,.int .u8 0,.int .u8 0,.int .u8 0,.int .u8 0,.int .u8 0,.int .u8 0,.int .u8 0,.int .u8 0,.int .u8 0,.int .u8 0,.int .u8 0,.int .u8 0,.int .u8 0,.int .u8 0,.int .u8 0,.int .u8 0,.int .u8 0,.int .u8 0,.int .u8 0,.int .u8 0,.int .u8 0,.int .u8 0,.int .u8 0,.int .u8 0,.int .u8 0,.int .u8 0,.int .u8 0,.int .u8 0,.int .u8 0,.int .u8 0,.int .u8 0,.int .u8 0,.int .u8 0,.int .u8 0,.int .u8 0,.int .u8 0,.int .u8 0,.int .u8 0,.int .u8 0,.int .u8 0,.int .u8 0,.int .u8 0,.int .u8 0,.int .u8 0,.int .u8 0,.int .u8 0,.int .u8 0,.int .u8 0,.int .u8 0,.int .u8 0,.int .u8 0,.int .u8 0,.int .u8 0,.int .u8 0,.int .u8 0,.int .u8 0,.int .u8 0,.int .u8 0,.int .u8 0,.int .u8 0,.int .u8 0,.int .u8 0,.int .u8 0,.int .u8 0,.int .u8 0,.int .u8 0,.int .u8 0,.int .u8 0,.int .u8 0,.int .u8 0,.int .u8 0,.int .u8 0,.int .u8 0,.int .u8 0,.int .u8 0,.int .u8 0,.int .u8 0,.int .u8 0,.int .u8 0,.int .u8 0,.int .u8 0,.int .u8 0,.int .u8 0,.int .u8 0,.int .u8 0,.int .u8 0,.int .u8 0,.int .u8 0,.int .u8 0,.int .u8 0,.int .u8 0,.int .u8 0,.int .u8 0,.int .u8 0,.int .u8 0,.int .u8 0,.int .u8 0,.int .u8 0,.int .u8 0,.int .u8 0,.int .u8 0,.int .u8 0,.int .u8 0,.int .u8 0,.int .u8 0,.int .u8 0,.int .u8 0,.int .u8 0,.int .u8 0,.int .u8 0,.int .u8 0,.int .u8 0,.int .u8 0,.int .u8 0,.int .u8 0,.int .u8 0,.int .u8 0,.int .u8 0,.int .u8 0,.int .u8 0,.int .u8 0,.int .u8 0,.int .u8 0,.int .u8 0,.int .u8 0,.int .u8 0,.int .u8 0,.int .u8 0,.int .u8 0,.int .u8 0,.int .u8 0,.int .u8 0,.int .u8 0,.int .u8 0,.int .u8 0,.int .u8 0,.int .u8 0,.int .u8 0,.int .u8 0,.int .u8 0,.int .u8 0,.int .u8 0,.int .u8 0,.int .u8 0,.int .u8 0,.int .u8 0,.int .u8 0,.int .u8 0,.int .u8 0,.int .u8 0,.int .u8 0,.int .u8 0,.int .u8 0,.int .u8 0,.int .u8 0,.int .u8 0,.int .u8 0,.int .u8 0,.int .u8 0,.int .u8 0,.int .u8 0,.int .u8 0,.int .u8 0,.int .u8 0,.int .u8 0,.int .u8 0,.int .u8 0,.int .u8 0,.int .u8 0,.int .u8 0,.int .u8 0,.int .u8 0,.int .u8 0,.int .u8 0,.int .u8 0,.int .u8 0,.int .u8 0,.int .u8 0,.int .u8 0,.int .u8 0,.int .u8 0,.int .u8 0,.int .u8 0,.int .u8 0,.int .u8 0,.int .u8 0,.int .u8 0,.int .u8 0,.int .u8 0,.int .u8 0,.int .u8 0,.int .u8 0,.int .u8 0,.int .u8 0,.int .u8 0,.int .u8 0,.int .u8 0,.int .u8 0,.int .u8 0,.int .u8 0,.int .u8 0,.int .u8 0,.int .u8 0,.int .u8 0,.int .u8 0,.int .u8 0,.int .u8 0,.int .u8 0,.int .u8 0,.int .u8 0,.int .u8 0,.int .u8 0,.int .u8 0,.int .u8 0,.int .u8 0,.int .u8 0,.int .u8 0,.int .u8 0,.int .u8 0,.int .u8 0,.int .u8 0,.int .u8 0,.int .u8 0,.int .u8 0,.int .u8 0,.int .u8 0,.int .u8 0,.int .u8 0,.int .u8 0,.int .u8 0,.int .u8 0,.int .u8 0,.int .u8 0,.int .u8 0,.int .u8 0,.int .u8 0,.int .u8 0,.int .u8 0,.int .u8 0,.int .u8 0,.int .u8 0,.int .u8 0,.int .u8 0,.int .u8 0,.int .u8 0,.int .u8 0,.int .u8 0,.int .u8 0,.int .u8 0,.int .u8 0,.int .u8 0,.int .u8 0,.int .u8 0,.int .u8 0,.int .u8 0,.int .u8 0,.int .u8 0,.int .u8 0,.int .u8 0,.int .u8 0,.int .u8 0,.int .u8 0,.int .u8 0,.int .u8 0,.int .u8 0,.int .u8 0,.int .u8 0,.int .u8 0,.int .u8 0,.int .u8 0,.int .u8 0,.int .u8 0,.int .u8 0,.int .u8 0,.int .u8 0,.int .u8 0,.int .u8 0,.int .u8 0,.int .u8 0,.int .u8 0,.int .u8 0,.int .u8 0,.int .u8 0,.int .u8 0,.int .u8 0,.int .u8 0,.int .u8 0,.int .u8 0,.int .u8 0,.int .u8 0,.int .u8 0,.int .u8 0,.int .u8 0,.int .u8 0,.int .u8 0,.int .u8 0,.int .u8 0,.int .u8 0,.int .u8 0,.int .u8 0,.int .u8 0,.int .u8 0,.int .u8 0,.int .u8 0,.int .u8 0,.int .u8 0,.int .u8 0,.int .u8 0,.int .u8 0,.int .u8 0,.int .u8 0,.int .u8 0,.int .u8 0,.int .u8 0,.int .u8 0,.int .u8 0,.int .u8 0,.int .u8 0,.int .u8 0,.int .u8 0,.int .u8 0,.int .u8 0,.int .u8 0,.int .u8 0,.int .u8 0,.int .u8 0,.int .u8 0,.int .u8 0,.int .u8 0,.int .u8 0,.int .u8 0,.int .u8 0,.int .u8 0,.int .u8 0,.int .u8 0,.int .u8 0,.int .u8 0,.int .u8 0,.int .u8 0,.int .u8 0,.int .u8 0,.int .u8 0,.int .u8 0,.int .u8 0,.int .u8 0,.int .u8 0,.int .u8 0,.int .u8 0,.int .u8 0,.int .u8 0,.int .u8 0,.int .u8 0,.int .u8 0,.int .u8 0,.int .u8 0,.int .u8 0,.int .u8 0,.int .u8 0,.int .u8 0,.int .u8 0,.int .u8 0,.int .u8 0,.int .u8 0,.int .u8 0,.int .u8 0,.int .u8 0,.int .u8 0,.int .u8 0,.int .u8 0,.int .u8 0,.int .u8 0,.int .u8 0,.int .u8 0,.int .u8 0,.int .u8 0,.int .u8 0,.int .u8 0,.int .u8 0,.int .u8 0,.int .u8 0,.int .u8 0,.int .u8 0,.int .u8 0,.int .u8 0,.int .u8 0,.int .u8 0,.int .u8 0,.int .u8 0,.int .u8 0,.int .u8 0,.int .u8 0,.int .u8 0,.int .u8 0,.int .u8 0,.int .u8 0,.int .u8 0,.int .u8 0,.int .u8 0,.int .u8 0,.int .u8 0,.int .u8 0,.int .u8 0,.int .u8 0,.int .u8 0,.int .u8 0,.int .u8 0,.int .u8 0,.int .u8 0,.int .u8 0,.int .u8 0,.int .u8 0,.int .u8 0,.int .u8 0,.int .u8 0,.int .u8 0,.int .u8 0,.int .u8 0,.int .u8 0,.int .u8 0,.int .u8 0,.int .u8 0,.int .u8 0,.int .u8 0,.int .u8 0,.int .u8 0,.int .u8 0,.int .u8 0,.int .u8 0,.int .u8 0,.int .u8 0,.int .u8 0,.int .u8 0,.int .u8 0,.int .u8 0,.int .u8 0,.int .u8 0,.int .u8 0,.int .u8 0,.int .u8 0,.int .u8 0,.int .u8 0,.int .u8 0,.int .u8 0,.int .u8 0,.int .u8 0,.int .u8 0,.int .u8 0,.int .u8 0,.int .u8 0,.int .u8 0,.int .u8 0,.int .u8 0,.int .u8 0,.int .u8 0,.int .u8 0,.int .u8 0,.int .u8 0,.int .u8 0,.int .u8 0,.int .u8 0,.int .i64 0,.int .i64 0,.int .i64 0,.int .i64 0,.int .i64 0,.int .i64 0,.int .i64 0,.int .i64 0,.int .i64 0,.int .i64 0,.int .i64 0,.int .i64 0,.int .i64 0,.int .i64 0,.int .i64 0,.int .i64 0,.int .i64 0,.int .i64 0,.int .i64 0,.int .i64 0,.int .i64 0,.int .i64 0,.int .i64 0,.int .i64 0,.int .i64 0,.int .i64 0,.int .i64 0,.int .i64 0,.int .i64 0,.int .i64 0,.int .i64 0,.int .i64 0,.int .i64 0,.int .i64 0,.int .i64 0,.int .i64 0,.int .i64 0,.int .i64 0,.int .i64 0,.int .i64 0,.int .i64 0,.int .i64 0,.int .i64 0,.int .i64 0,.int .i64 0,.int .i64 0,.int .i64 0,.int .i64 0,.int .i64 0,.int .i64 0,.int .i64 0,.int .i64 0,.int .i64 0,.int .i64 0,.int .i64 0,.int .i64 0,.int .i64 0,.int .i64 0,.int .i64 0,.int .i64 0,.int .i64 0,.int .i64 0,.int .i64 0,.int .i64 0,.int .i64 0,.int .i64 0,.int .i64 0,.int .i64 0,.int .i64 0,.int .i64 0,.int .i64 0,.int .i64 0,.int .i64 0,.int .i64 0,.int .i64 0,.int .i64 0,.int .i64 0,.int .i64 0,.int .i64 0,.int .i64 0,.int .i64 0,.int .i64 0,.int .i64 0,.int .i64 0,.int .i64 0,.int .i64 0,.int .i64 0,.int .i64 0,.int .i64 0,.int .i64 0,.int .i64 0,.int .i64 0,.int .i64 0,.int .i64 0,.int .i64 0,.int .i64 0,.int .i64 0,.int .i64 0,.int .i64 0,.int .i64 0,.int .i64 0,.int .i64 0,.int .i64 0,.int .i64 0,.int .i64 0,.int .i64 0,.int .i64 0,.int .i64 0,.int .i64 0,.int .i64 0,.int .i64 0,.int .i64 0,.int .i64 0,.int .i64 0,.int .i64 0,.int .i64 0,.int .i64 0,.int .i64 0,.int .i64 0,.int .i64 0,.int .i64 0,.int .i64 0,.int .i64 0,.int .i64 0,.int .i64 0,.int .i64 0,.int .i64 0,.int .i64 0,.int .i64 0,.int .i64 0,.int .i64 0,.int .i64 0,.int .i64 0,.int .i64 0,.int .i64 0,.int .i64 0,.int .i64 0,.int .i64 0,.int .i64 0,.int .i64 0,.int .i64 0,.int .i64 0,.int .i64 0,.int .i64 0,.int .i64 0,.int .i64 0,.int .i64 0,.int .i64 0,.int .i64 0,.int .i64 0,.int .i64 0,.int .i64 0,.int .i64 0,.int .i64 0,.int .i64 0,.int .i64 0,.int .i64 0,.int .i64 0,.int .i64 0,.int .i64 0,.int .i64 0,.int .i64 0,.int .i64 0,.int .i64 0,.int .i64 0,.int .i64 0,.int .i64 0,.int .i64 0,.int .i64 0,.int .i64 0,.int .i64 0,.int .i64 0,.int .i64 0,.int .i64 0,.int .i64 0,.int .i64 0,.int .i64 0,.int .i64 0,.int .i64 0,.int .i64 0,.int .i64 0,.int .i64 0,.int .i64 0,.int .i64 0,.int .i64 0,.int .i64 0,.int .i64 0,.int .i64 0,.int .i64 0,.int .i64 0,.int .i64 0,.int .i64 0,.int .i64 0,.int .i64 0,.int .i64 0,.int .i64 0,.int .i64 0,.int .i64 0,.int .i64 0,.int .i64 0,.int .i64 0,.int .i64 0,.int .i64 0,.int .i64 0,.int .i64 0,.int .i64 0,.int .i64 0,.int .i64 0,.int .i64 0,.int .i64 0,.int .i64 0,.int .i64 0,.int .i64 0,.int .i64 0,.int .i64 0,.int .i64 0,.int .i64 0,.int .i64 0,.int .i64 0,.int .i64 0,.int .i64 0,.int .i64 0,.int .i64 0,.int .i64 0,.int .i64 0,.int .i64 0,.int .i64 0,.int .i64 0,.int .i64 0,.int .i64 0,.int .i64 0,.int .i64 0,.int .i64 0,.int .i64 0,.int .i64 0,.int .i64 0,.int .i64 0,.int .i64 0,.int .i64 0,.int .i64 0,.int .i64 0,.int .i64 0,.int .i64 0,.int .i64 0,.int .i64 0,.int .i64 0,.int .i64 0,.int .i64 0,.int .i64 0,.int .i64 0,.int .i64 0,.int .i64 0,.int .i64 0,.int .i64 0,.int .i64 0,.int .i64 0] [],[]⟩,⟨1,some 5,none,.box 204 (.t 4),[]⟩,⟨2,some 1,none,.mov (.t 5),[]⟩]) (.seq (.ops [⟨0,some 2,none,.mov (.c (.int .u8 1)),[]⟩]) (.seq (.seq (.ops [⟨0,some 6,none,.mov (.c (.int .i64 0)),[]⟩]) (.block 0 (.loop (.seq (.ops [⟨0,some 7,none,.bin .lss (.t 6) (.c (.int .i64 255)),[]⟩]) (.seq (.ite (.t 7) .skip (.exit 0)) (.seq (.block 1 (.seq (.ops [⟨0,some 8,none,.mov (.t 6),[]⟩,⟨1,some 3,none,.mov (.t 8),[]⟩]) (.seq (.dops [⟨0,some 9,none,.mov (.t 1),[]⟩,⟨1,some 10,none,.mov (.t 3),[]⟩,⟨2,some 11,none,.mov (.t 1),[]⟩,⟨3,some 12,none,.mov (.t 3),[]⟩,⟨4,some 13,none,.bin .add (.t 12) (.c (.int .i64 255)),[]⟩,⟨5,some 14,none,.mov (.t 2),[]⟩,⟨6,some 15,none,.mov (.t 2),[]⟩,⟨7,some 16,none,.nil (.t 9),[]⟩,⟨8,some 17,none,.fad 0 (.t 16),[]⟩,⟨9,some 18,none,.ixa 510 1 (.t 17) (.t 10),[]⟩,⟨10,none,none,.st (.t 18) (.t 14),[]⟩,⟨11,some 19,none,.nil (.t 11),[]⟩,⟨12,some 20,none,.fad 0 (.t 19),[]⟩,⟨13,some 21,none,.ixa 510 1 (.t 20) (.t 13),[]⟩,⟨14,none,none,.st (.t 21) (.t 15),[]⟩]) (.seq (.ops [⟨0,some 22,none,.mov (.t 1),[]⟩,⟨1,some 23,none,.mov (.t 2),[]⟩,⟨2,some 24,none,.mov (.t 3),[]⟩,⟨3,some 25,none,.nil (.t 22),[]⟩,⟨4,some 26,none,.fad 510 (.t 25),[]⟩,⟨5,some 27,none,.ixa 256 1 (.t 26) (.t 23),[]⟩,⟨6,none,none,.st (.t 27) (.t 24),[]⟩]) (.ops [⟨0,some 28,none,.mov (.t 2),[]⟩,⟨1,some 29,none,.call (.c (.func (.func 53) #[] #[])) [.t 28,.c (.int .u8 2)],[]⟩,⟨2,some 2,none,.mov (.t 29),[]⟩]))))) (.ops [⟨0,some 30,none,.bin .add (.t 6) (.c (.int .i64 1)),[]⟩,⟨1,some 6,none,.mov (.t 30),[]⟩]))))))) (.seq (.ops [⟨0,some 31,none,.mov (.t 1),[]⟩,⟨1,some 0,none,.mov (.t 31),[]⟩]) .ret))))
attribute [irreducible] c_gf8_New
theorem run_gf8_New {args : List Value} {w : World} {K : Value → World → Prop} (hn : args.length ≤ 32) (h : WP Try.prog c_gf8_New (endQ [.t 0] K) (initT args) w) : CallV Try.prog 84 args w K :=
  call_of follows Try.func84 (by kernel_rfl) (by kernel_rfl) hn h
def c_gf8_Tables_Mul : C := .seq (.ops [⟨0,some 6,none,.mov (.c (.int .u8 0)),[]⟩]) (.seq (.seq (.ops [⟨0,some 7,none,.mov (.t 0),[]⟩,⟨1,some 8,none,.eqp false (.t 7) (.c (.pointer none)),[]⟩,⟨2,some 9,none,.mov (.t 8),[]⟩,⟨3,some 10,(some (9,false)),.mov (.t 1),[]⟩,⟨4,some 11,(some (9,false)),.bin .eql (.t 10) (.c (.int .u8 0)),[]⟩,⟨5,some 12,none,.pick (.t 9) (.c (.bool true)) (.t 11),[]⟩,⟨6,some 13,none,.mov (.t 12),[]⟩,⟨7,some 14,(some (13,false)),.mov (.t 2),[]⟩,⟨8,some 15,(some (13,false)),.bin .eql (.t 14) (.c (.int .u8 0)),[]⟩,⟨9,some 16,none,.pick (.t 13) (.c (.bool true)) (.t 15),[]⟩]) (.ite (.t 16) (.seq (.ops [⟨0,some 6,none,.mov (.c (.int .u8 0)),[]⟩]) .ret) .skip)) (.seq (.dops [⟨0,some 17,none,.mov (.t 0),[]⟩,⟨1,some 18,none,.mov (.t 0),[]⟩,⟨2,some 19,none,.mov (.t 1),[]⟩,⟨3,some 20,none,.nil (.t 18),[]⟩,⟨4,some 21,none,.fad 510 (.t 20),[]⟩,⟨5,some 22,none,.ixa 256 1 (.t 21) (.t 19),[]⟩,⟨6,some 23,none,.ld (.t 22),[]⟩,⟨7,some 24,none,.mov (.t 0),[]⟩,⟨8,some 25,none,.mov (.t 2),[]⟩,⟨9,some 26,none,.nil (.t 24),[]⟩,⟨10,some 27,none,.fad 510 (.t 26),[]⟩,⟨11,some 28,none,.ixa 256 1 (.t 27) (.t 25),[]⟩,⟨12,some 29,none,.ld (.t 28),[]⟩,⟨13,some 30,none,.bin .add (.t 23) (.t 29),[]⟩,⟨14,some 31,none,.nil (.t 17),[]⟩,⟨15,some 32,none,.fad 0 (.t 31),[]⟩,⟨16,some 33,none,.ixa 510 1 (.t 32) (.t 30),[]⟩,⟨17,some 34,none,.ld (.t 33),[]⟩,⟨18,some 6,none,.mov (.t 34),[]⟩]) .ret))
attribute [irreducible] c_gf8_Tables_Mul
theorem run_gf8_Tables_Mul {args : List Value} {w : World} {K : Value → World → Prop} (hn : args.length ≤ 35) (h : WP Try.prog c_gf8_Tables_Mul (endQ [.t 6] K) (initT args) w) : CallV Try.prog 85 args w K :=
  call_of follows Try.func85 (by kernel_rfl) (by kernel_rfl) hn h
def c_gf8_Tables_Inv : C := .seq (.ops [⟨0,some 4,none,.mov (.c (.int .u8 0)),[]⟩,⟨1,some 5,none,.mov (.c (.int .i64 0)),[]⟩]) (.seq (.block 0 (.seq (.ops [⟨0,some 7,none,.mov (.t 0),[]⟩,⟨1,some 8,none,.eqp false (.t 7) (.c (.pointer none)),[]⟩,⟨2,some 6,none,.mov (.t 8),[]⟩]) (.ite (.t 6) (.seq (.ops [⟨0,some 4,none,.mov (.c (.int .u8 0)),[]⟩,⟨1,some 5,none,.mov (.c (.int .i64 1)),[]⟩]) .ret) (.seq (.ops [⟨0,some 10,none,.mov (.t 1),[]⟩,⟨1,some 11,none,.bin .eql (.t 10) (.c (.int .u8 0)),[]⟩,⟨2,some 9,none,.mov (.t 11),[]⟩]) (.ite (.t 9) (.seq (.ops [⟨0,some 4,none,.mov (.c (.int .u8 0)),[]⟩,⟨1,some 5,none,.mov (.c (.int .i64 20)),[]⟩]) .ret) .skip))))) (.seq (.dops [⟨0,some 12,none,.mov (.t 0),[]⟩,⟨1,some 13,none,.mov (.t 0),[]⟩,⟨2,some 14,none,.mov (.t 1),[]⟩,⟨3,some 15,none,.nil (.t 13),[]⟩,⟨4,some 16,none,.fad 510 (.t 15),[]⟩,⟨5,some 17,none,.ixa 256 1 (.t 16) (.t 14),[]⟩,⟨6,some 18,none,.ld (.t 17),[]⟩,⟨7,some 19,none,.bin .sub (.c (.int .i64 255)) (.t 18),[]⟩,⟨8,some 20,none,.nil (.t 12),[]⟩,⟨9,some 21,none,.fad 0 (.t 20),[]⟩,⟨10,some 22,none,.ixa 510 1 (.t 21) (.t 19),[]⟩,⟨11,some 23,none,.ld (.t 22),[]⟩,⟨12,some 4,none,.mov (.t 23),[]⟩,⟨13,some 5,none,.mov (.c (.int .i64 0)),[]⟩]) .ret))
attribute [irreducible] c_gf8_Tables_Inv
theorem run_gf8_Tables_Inv {args : List Value} {w : World} {K : Value → World → Prop} (hn : args.length ≤ 24) (h : WP Try.prog c_gf8_Tables_Inv (endQ [.t 4, .t 5] K) (initT args) w) : CallV Try.prog 86 args w K :=
  call_of follows Try.func86 (by kernel_rfl) (by kernel_rfl) hn h
end Go.Proofs.Ytbaljbadlfopgaa.Fw
namespace Go.Proofs.Ytbaljbadlfopgaa.Fw
open Go Go.Fw
theorem gf8_Mul_spec (w : World) (a b : El 8) : CallV Try.prog 53 [.int .u8 (a.v.toNat : Int), .int .u8 (b.v.toNat : Int)] w fun v w' => v = .int .u8 ((a * b).v.toNat : Int) ∧ w' = w := by
  have ha := a.v.isLt
  have hb := b.v.isLt
  refine run_gf8_Mul (by simp) ?_
  simp only [c_gf8_Mul, WS, ↓reduceIte, Nat.reduceEqDiff, reduceCtorEq, wrap_u64 _ (show a.v.toNat < 18446744073709551616 by omega)]
  refine loop_of (fun t w' => w' = w ∧ ∃ (m : Nat) (x p : BitVec 8), m ≤ 8 ∧ t 1 = .int .u8 ((b.v.toNat >>> m : Nat) : Int) ∧ t 5 = .int .u64 (x.toNat : Int) ∧ t 6 = .int .u64 (p.toNat : Int) ∧ x = pw r8 a.v m ∧ p = bsum (fun i => sel (b.v.getLsbD i) (pw r8 a.v i)) m)
    (fun t _ => (toI (t 1)).toNat) ⟨rfl, 0, a.v, 0, by omega, rfl, rfl, rfl, rfl, rfl⟩ ?_
  rintro t w' ⟨rfl, m, x, p, hm, h1, h5, h6, hx, hp⟩
  have hx8 := x.isLt
  have hp8 := p.isLt
  have hle : b.v.toNat >>> m ≤ b.v.toNat := by rw [Nat.shiftRight_eq_div_pow]; exact Nat.div_le_self _ _
  by_cases h0 : b.v.toNat >>> m = 0
  · simp only [WS, ↓reduceIte, Nat.reduceEqDiff, reduceCtorEq, h0, h1, h5, h6, Int.natCast_zero, show decide ((0 : Int) = 0) = true from rfl, show decide (((0 : Nat) : Int) = 0) = true from rfl, wrap_u8 _ (show p.toNat < 256 by omega)]
    have he : p = (a * b).v := by
      rw [El.mul_v]
      show p = bsum _ 8
      have hz := bsum_ext_zero (fun i => sel (b.v.getLsbD i) (pw r8 a.v i)) m (8 - m) fun i h1 h2 => by
        have : b.v.getLsbD i = false := by
          have h3 : (b.v.toNat >>> m).testBit (i - m) = false := by rw [h0]; simp
          rw [Nat.testBit_shiftRight, show m + (i - m) = i by omega] at h3
          exact h3
        show sel (b.v.getLsbD i) _ = 0
        rw [this]; rfl
      rw [show m + (8 - m) = 8 by omega] at hz
      rw [hp]
      exact hz.symm
    rw [he]
  · have hm8 : m < 8 := by
      rcases Nat.lt_or_ge m 8 with h | h
      · exact h
      · exfalso; apply h0; rw [show m = 8 by omega, Nat.shiftRight_eq_div_pow]; omega
    have d1 : decide (((b.v.toNat >>> m : Nat) : Int) = 0) = false := decide_eq_false (by omega)
    have t1 : bitsOp .and .u8 ((b.v.toNat >>> m : Nat) : Int) 1 = if b.v.getLsbD m then 1 else 0 := by
      rw [show (1 : Int) = ((1 : Nat) : Int) from rfl, bits_and fits_u8 (show b.v.toNat >>> m < 2 ^ 8 by omega) (by decide), and_one_shr]
      rw [show b.v.toNat.testBit m = b.v.getLsbD m from BitVec.testBit_toNat b.v]
      split <;> rfl
    have s1 : shlV .u64 (x.toNat : Int) 1 = ((x.toNat <<< 1 : Nat) : Int) := shl_nat fits_u64 x.toNat 1 (by decide) (by omega)
    have e2 : x.toNat <<< 1 = 2 * x.toNat := by rw [Nat.shiftLeft_eq]; omega
    have t2 : bitsOp .and .u64 ((x.toNat <<< 1 : Nat) : Int) 256 = if x.msb then 256 else 0 := by
      rw [show (256 : Int) = ((256 : Nat) : Int) from rfl, bits_and fits_u64 (by omega) (by decide), and256]
      split <;> rfl
    have x1 : bitsOp .xor .u64 ((x.toNat <<< 1 : Nat) : Int) 285 = (((x.toNat <<< 1) ^^^ 285 : Nat) : Int) := bits_xor fits_u64 (show x.toNat <<< 1 < 2 ^ 64 by omega) (by decide)
    have x2 : bitsOp .xor .u64 (p.toNat : Int) (x.toNat : Int) = ((p ^^^ x).toNat : Int) := by rw [bits_xor fits_u64 (show p.toNat < 2 ^ 64 by omega) (show x.toNat < 2 ^ 64 by omega), BitVec.toNat_xor]
    have sh : shrV .u8 ((b.v.toNat >>> m : Nat) : Int) 1 = ((b.v.toNat >>> (m + 1) : Nat) : Int) := by
      rw [show (1 : Int) = ((1 : Nat) : Int) from rfl, shr_nat .u8 _ 1 (by decide), ← Nat.shiftRight_add]
    have v1 := mx8_val x
    have hlt : b.v.toNat >>> (m + 1) < b.v.toNat >>> m := by rw [Nat.shiftRight_succ]; exact Nat.div_lt_self (Nat.pos_of_ne_zero h0) (by decide)
    have n1 : pw r8 a.v (m + 1) = mx r8 x := by rw [hx]; rfl
    have n2 : bsum (fun i => sel (b.v.getLsbD i) (pw r8 a.v i)) (m + 1) = p ^^^ sel (b.v.getLsbD m) x := by rw [hx, hp]; rfl
    cases hmsb : x.msb <;> cases hbm : b.v.getLsbD m <;> simp only [hmsb, hbm, if_true, if_false, Bool.false_eq_true] at t1 t2 v1 n2
    · simp only [WS, ↓reduceIte, Nat.reduceEqDiff, reduceCtorEq, X_shl, X_shr, Int.reduceLE, h1, h5, h6, d1, t1, t2, s1, sh, Int.reduceEq, toI_int, Int.toNat_natCast]
      exact ⟨⟨m + 1, mx r8 x, p, by omega, rfl, by rw [v1], rfl, n1.symm, by rw [n2]; exact BitVec.xor_zero.symm⟩, hlt⟩
    · simp only [WS, ↓reduceIte, Nat.reduceEqDiff, reduceCtorEq, X_shl, X_shr, Int.reduceLE, h1, h5, h6, d1, t1, t2, s1, sh, x2, Int.reduceEq, toI_int, Int.toNat_natCast]
      exact ⟨⟨m + 1, mx r8 x, p ^^^ x, by omega, rfl, by rw [v1], rfl, n1.symm, by rw [n2]; rfl⟩, hlt⟩
    · simp only [WS, ↓reduceIte, Nat.reduceEqDiff, reduceCtorEq, X_shl, X_shr, Int.reduceLE, h1, h5, h6, d1, t1, t2, s1, sh, x1, v1, Int.reduceEq, toI_int, Int.toNat_natCast]
      exact ⟨⟨m + 1, mx r8 x, p, by omega, rfl, rfl, rfl, n1.symm, by rw [n2]; exact BitVec.xor_zero.symm⟩, hlt⟩
    · simp only [WS, ↓reduceIte, Nat.reduceEqDiff, reduceCtorEq, X_shl, X_shr, Int.reduceLE, h1, h5, h6, d1, t1, t2, s1, sh, x1, v1, x2, Int.reduceEq, toI_int, Int.toNat_natCast]
      exact ⟨⟨m + 1, mx r8 x, p ^^^ x, by omega, rfl, rfl, rfl, n1.symm, by rw [n2]; rfl⟩, hlt⟩
/-- The tables of the field of 256 elements. -/
def tabC (E L : List Nat) : List Value := E.map (fun n => .int .u8 (n : Int)) ++ L.map (fun n => .int .i64 (n : Int))
def Tab8 (w : World) (p : Value) : Prop := ∃ b E L, p = .pointer (some ⟨b, 0, none⟩) ∧ Row w b (tabC E L) ∧ E.length = 510 ∧ L.length = 256 ∧ (∀ j, j < 510 → E[j]? = some (gp j).toNat) ∧ ∀ j, j < 255 → L[(gp j).toNat]? = some j
theorem Tab8.up {w w' : World} {p : Value} (h : Tab8 w p) (hb : RowKit.Below w.heap.size w w') : Tab8 w' p := by
  obtain ⟨b, E, L, h1, h2, h3⟩ := h
  exact ⟨b, E, L, h1, h2.up hb, h3⟩
theorem Tab8.stays' {w : World} {b : Nat} {E L : List Nat} (hr : Row w b (tabC E L)) {p : Value} (hp : p = .pointer (some ⟨b, 0, none⟩)) (h : Tab8 w p) : ∀ w2, w2.heap[b]? = w.heap[b]? → Tab8 w2 p := by
  obtain ⟨b', E', L', h1, h2, h3⟩ := h
  subst hp
  cases h1
  exact fun w2 hw => ⟨b, E', L', rfl, row_up h2 hw, h3⟩
theorem gf8_Mul_two (w : World) (i : Nat) : CallV Try.prog 53 [.int .u8 ((gp i).toNat : Int), .int .u8 2] w fun v w' => v = .int .u8 ((gp (i + 1)).toNat : Int) ∧ w' = w := by
  have h := gf8_Mul_spec w ⟨gp i⟩ ⟨2⟩
  have e1 : (⟨gp i⟩ : El 8) * ⟨2⟩ = ⟨gp (i + 1)⟩ := by
    apply El.ext
    show bmul r8 (gp i) 2 = gp (i + 1)
    rw [← gp_mul]; rfl
  rw [e1] at h
  exact h
theorem gf8_New_spec (w : World) : CallV Try.prog 84 [] w fun v w' => Tab8 w' v ∧ RowKit.Below w.heap.size w w' ∧ ∀ w2, Stays w w' w2 → Tab8 w2 v := by
  refine run_gf8_New (by simp) ?_
  have hz : ∀ cs : List Value, fillL cs [] = some cs := fun cs => rfl
  simp only [c_gf8_New, WS, ↓reduceIte, Nat.reduceEqDiff, reduceCtorEq, X_bld, hz]
  refine X_box ?_
  intro b w1 hr hb hB
  simp only [WS, ↓reduceIte, Nat.reduceEqDiff, reduceCtorEq]
  refine loop_of (fun t w' => ∃ (i : Nat) (E L : List Nat), i ≤ 255 ∧ t 1 = .pointer (some ⟨b, 0, none⟩) ∧ t 2 = .int .u8 ((gp i).toNat : Int) ∧ t 6 = .int .i64 (i : Int) ∧ Row w' b (tabC E L) ∧ RowKit.Below w.heap.size w w' ∧ E.length = 510 ∧ L.length = 256 ∧
    (∀ j, j < i → E[j]? = some (gp j).toNat ∧ E[j + 255]? = some (gp j).toNat) ∧ ∀ j, j < i → L[(gp j).toNat]? = some j)
    (fun t _ => (255 - toI (t 6)).toNat) ⟨0, List.replicate 510 0, List.replicate 256 0, by omega, rfl, rfl, rfl, ?_, hB, by simp, by simp, fun j h => absurd h (by omega), fun j h => absurd h (by omega)⟩ ?_
  · have : tabC (List.replicate 510 0) (List.replicate 256 0) = List.replicate 510 (.int .u8 0) ++ List.replicate 256 (.int .i64 0) := by simp [tabC]
    rw [this]
    exact hr
  rintro t w2 ⟨i, E, L, hi, h1, h2, h6, hr, hB, hE, hL, hp, hl⟩
  by_cases hlt : i < 255
  · have d1 : decide ((i : Int) < 255) = true := decide_eq_true (by omega)
    have wi : IntKind.i64.wrap ((i : Int) + 255) = ((i + 255 : Nat) : Int) := by rw [wrap_id (by omega) (by omega)]; omega
    have wi1 : IntKind.i64.wrap ((i : Int) + 1) = ((i + 1 : Nat) : Int) := by rw [wrap_id (by omega) (by omega)]; omega
    have hg := (gp i).isLt
    have hlen : (tabC E L).length = 766 := by simp [tabC, hE, hL]
    simp only [WS, ↓reduceIte, Nat.reduceEqDiff, reduceCtorEq, h1, h2, h6, d1]
    refine WP_dops ?_
    simp only [ES, List.mem_cons, List.not_mem_nil, implies_true, forall_const, WS, ↓reduceIte, Nat.reduceEqDiff, reduceCtorEq, h1, h2, wi, X_ixa, E_ixa (show i < 510 by omega), addr_add0, Nat.zero_add, Nat.mul_one, Nat.add_zero]
    refine Row.Est (o := i) hr.drew (by omega) rfl fun w3 hr3 hg3 => ?_
    simp only [ES, List.mem_cons, List.not_mem_nil, implies_true, forall_const, WS, ↓reduceIte, Nat.reduceEqDiff, reduceCtorEq, h1, h2, wi, E_ixa (show i + 255 < 510 by omega), addr_add0, Nat.zero_add, Nat.mul_one, Nat.add_zero]
    refine Row.Est (o := i + 255) hr3 (by rw [List.length_set]; omega) rfl fun w4 hr4 hg4 => ?_
    simp only [ES, List.mem_cons, List.not_mem_nil, implies_true, forall_const, WS, ↓reduceIte, Nat.reduceEqDiff, reduceCtorEq, h1, h2, X_ixa (show (gp i).toNat < 256 from hg), addr_add0, Nat.zero_add, Nat.mul_one, Nat.add_zero]
    refine Row.Xst (o := 510 + (gp i).toNat) hr4 (by rw [List.length_set, List.length_set]; omega) rfl fun w5 hr5 hg5 => ?_
    simp only [WS, ↓reduceIte, Nat.reduceEqDiff, reduceCtorEq, h2]
    refine X_call0 ((gf8_Mul_two w5 i).mono ?_)
    rintro v w' ⟨rfl, rfl⟩
    simp only [WS, ↓reduceIte, Nat.reduceEqDiff, reduceCtorEq, h1, h6, wi1, toI_int]
    have hcs : (((tabC E L).set i (.int .u8 ((gp i).toNat : Int))).set (i + 255) (.int .u8 ((gp i).toNat : Int))).set (510 + (gp i).toNat) (.int .i64 (i : Int)) = tabC ((E.set i (gp i).toNat).set (i + 255) (gp i).toNat) (L.set (gp i).toNat i) := by
      unfold tabC
      rw [List.set_append_left _ _ (by simp; omega), List.set_append_left _ _ (by simp; omega), List.set_append_right _ _ (by simp; omega)]
      congr 1
      · simp only [List.map_set]
      · simp only [List.map_set, List.length_set, List.length_map, hE, Nat.add_sub_cancel_left]
    rw [hcs] at hr5
    refine ⟨⟨i + 1, (E.set i (gp i).toNat).set (i + 255) (gp i).toNat, L.set (gp i).toNat i, by omega, rfl, rfl, hr5, ?_, by simp [hE], by simp [hL], ?_, ?_⟩, by omega⟩
    · exact Below.row (Below.row (Below.row (hB.trans ((bel_drew w2).mono hB.size)) hb hg3) hb hg4) hb hg5
    · intro j hj
      have h255 : (i + 255) < E.length := by omega
      have hij : (if i < E.length then some (gp i).toNat else none) = some (gp i).toNat := if_pos (by omega)
      by_cases e : j = i
      · subst e
        have h1' : j < E.length := by omega
        simp [List.getElem?_set, h255, h1']
      · have := hp j (by omega)
        simp only [List.getElem?_set, List.length_set]
        rw [if_neg (by omega), if_neg (by omega), if_neg (by omega), if_neg (by omega)]
        exact this
    · intro j hj
      by_cases e : j = i
      · subst e
        rw [List.getElem?_set, if_pos rfl, if_pos (by omega)]
      · rw [List.getElem?_set, if_neg]
        · exact hl j (by omega)
        · intro h
          exact e (gp_inj (by omega) (by omega) (BitVec.eq_of_toNat_eq h.symm))
  · have d1 : decide ((i : Int) < 255) = false := decide_eq_false (by omega)
    have : i = 255 := by omega
    subst this
    simp only [WS, ↓reduceIte, Nat.reduceEqDiff, reduceCtorEq, h1, h2, h6, d1]
    have hT : Tab8 w2 (.pointer (some ⟨b, 0, none⟩)) := by
     refine ⟨b, E, L, rfl, hr, hE, hL, fun j hj => ?_, hl⟩
     by_cases h : j < 255
     · exact (hp j h).1
     · have := (hp (j - 255) (by omega)).2
       rw [show j - 255 + 255 = j by omega] at this
       rw [this, show gp j = gp (255 + (j - 255)) by congr 1; omega, gp_wrap]
    exact ⟨hT, hB, fun w3 hs => Tab8.stays' hr rfl hT w3 (hs b hb (row_lt hr))⟩
theorem tab_exp {E L : List Nat} (hE : E.length = 510) {j : Nat} (hj : j < 510) (h : E[j]? = some (gp j).toNat) (hlt : j < (tabC E L).length) : (tabC E L)[j] = .int .u8 ((gp j).toNat : Int) := by
  have : (tabC E L)[j]? = some (.int .u8 ((gp j).toNat : Int)) := by
    unfold tabC
    rw [List.getElem?_append_left (by simp; omega), List.getElem?_map, h]; rfl
  rw [List.getElem?_eq_getElem hlt] at this
  exact Option.some.inj this
theorem tab_log {E L : List Nat} (hE : E.length = 510) {a j : Nat} (h : L[a]? = some j) (hlt : 510 + a < (tabC E L).length) : (tabC E L)[510 + a] = .int .i64 (j : Int) := by
  have : (tabC E L)[510 + a]? = some (.int .i64 (j : Int)) := by
    unfold tabC
    rw [List.getElem?_append_right (by simp; omega), List.length_map, hE, Nat.add_sub_cancel_left, List.getElem?_map, h]; rfl
  rw [List.getElem?_eq_getElem hlt] at this
  exact Option.some.inj this
theorem gf8_Tables_Mul_spec (w : World) (p : Value) (h : Tab8 w p) (a b : El 8) : CallV Try.prog 85 [p, .int .u8 (a.v.toNat : Int), .int .u8 (b.v.toNat : Int)] w fun v w' => v = .int .u8 ((a * b).v.toNat : Int) ∧ Like w w' := by
  obtain ⟨bl, E, L, rfl, hr, hE, hL, hp, hl⟩ := h
  have hlen : (tabC E L).length = 766 := by simp [tabC, hE, hL]
  have ha := a.v.isLt
  have hb := b.v.isLt
  refine run_gf8_Tables_Mul (by simp) ?_
  by_cases ha0 : a = 0
  · subst ha0
    simp only [c_gf8_Tables_Mul, WS, ↓reduceIte, Nat.reduceEqDiff, reduceCtorEq, El.zero_mul]
    simp only [WS, ↓reduceIte, Nat.reduceEqDiff, reduceCtorEq, show decide ((((0 : El 8).v.toNat : Nat) : Int) = 0) = true from rfl]
    exact ⟨rfl, Like.refl w⟩
  by_cases hb0 : b = 0
  · subst hb0
    have d1 : decide ((a.v.toNat : Int) = 0) = false := decide_eq_false (by rw [el_zero]; exact ha0)
    simp only [c_gf8_Tables_Mul, WS, ↓reduceIte, Nat.reduceEqDiff, reduceCtorEq, d1, El.mul_zero]
    simp only [WS, ↓reduceIte, Nat.reduceEqDiff, reduceCtorEq, show decide ((((0 : El 8).v.toNat : Nat) : Int) = 0) = true from rfl]
    exact ⟨rfl, Like.refl w⟩
  have d1 : decide ((a.v.toNat : Int) = 0) = false := decide_eq_false (by rw [el_zero]; exact ha0)
  have d2 : decide ((b.v.toNat : Int) = 0) = false := decide_eq_false (by rw [el_zero]; exact hb0)
  obtain ⟨i, hi, ei⟩ := gp_ex a.v (fun e => ha0 (El.ext e))
  obtain ⟨j, hj, ej⟩ := gp_ex b.v (fun e => hb0 (El.ext e))
  have hli := hl i hi
  have hlj := hl j hj
  rw [ei] at hli
  rw [ej] at hlj
  have wi : IntKind.i64.wrap ((i : Int) + (j : Int)) = ((i + j : Nat) : Int) := by rw [wrap_id (by omega) (by omega)]; omega
  simp only [c_gf8_Tables_Mul, WS, ↓reduceIte, Nat.reduceEqDiff, reduceCtorEq, d1, d2]
  refine WP_dops ?_
  simp only [ES, List.mem_cons, List.not_mem_nil, implies_true, forall_const, WS, ↓reduceIte, Nat.reduceEqDiff, reduceCtorEq, E_ixa (show a.v.toNat < 256 from ha), E_ixa (show b.v.toNat < 256 from hb), addr_add0, Nat.zero_add, Nat.mul_one, Nat.add_zero,
    hr.drew.Eld (show 510 + a.v.toNat < _ by omega), hr.drew.Eld (show 510 + b.v.toNat < _ by omega), tab_log hE hli, tab_log hE hlj, wi, E_ixa (show i + j < 510 by omega), hr.drew.Eld (show i + j < _ by omega), tab_exp hE (show i + j < 510 by omega) (hp (i + j) (by omega))]
  refine ⟨congrArg (fun z : BitVec 8 => Value.int .u8 (z.toNat : Int)) ?_, Like.drew w⟩
  rw [← gp_mul, ei, ej]; rfl
theorem gf8_Tables_Inv_spec (w : World) (p : Value) (h : Tab8 w p) (a : El 8) (ha0 : a ≠ 0) : CallV Try.prog 86 [p, .int .u8 (a.v.toNat : Int)] w fun v w' => v = .tuple #[.int .u8 (a.inv.v.toNat : Int), .int .i64 0] ∧ Like w w' := by
  obtain ⟨bl, E, L, rfl, hr, hE, hL, hp, hl⟩ := h
  have hlen : (tabC E L).length = 766 := by simp [tabC, hE, hL]
  have ha := a.v.isLt
  refine run_gf8_Tables_Inv (by simp) ?_
  have d1 : decide ((a.v.toNat : Int) = 0) = false := decide_eq_false (by rw [el_zero]; exact ha0)
  obtain ⟨i, hi, ei⟩ := gp_ex a.v (fun e => ha0 (El.ext e))
  have hli := hl i hi
  rw [ei] at hli
  have wi : IntKind.i64.wrap (255 - (i : Int)) = ((255 - i : Nat) : Int) := by rw [wrap_id (by omega) (by omega)]; omega
  simp only [c_gf8_Tables_Inv, WS, ↓reduceIte, Nat.reduceEqDiff, reduceCtorEq, d1]
  refine WP_dops ?_
  simp only [ES, List.mem_cons, List.not_mem_nil, implies_true, forall_const, WS, ↓reduceIte, Nat.reduceEqDiff, reduceCtorEq, E_ixa (show a.v.toNat < 256 from ha), addr_add0, Nat.zero_add, Nat.mul_one, Nat.add_zero,
    hr.drew.Eld (show 510 + a.v.toNat < _ by omega), tab_log hE hli, wi, E_ixa (show 255 - i < 510 by omega), hr.drew.Eld (show 255 - i < _ by omega), tab_exp hE (show 255 - i < 510 by omega) (hp (255 - i) (by omega))]
  have : a.inv = ⟨gp (255 - i)⟩ := by
    have h1 : a * ⟨gp (255 - i)⟩ = 1 := by
      apply El.ext
      show bmul r8 a.v (gp (255 - i)) = 1
      rw [← ei, gp_mul, show i + (255 - i) = 255 by omega, gp_255]
    have h2 := El.mul_inv a ha0
    calc a.inv = a.inv * (a * ⟨gp (255 - i)⟩) := by rw [h1, El.mul_one]
      _ = a * a.inv * ⟨gp (255 - i)⟩ := by ac_rfl
      _ = _ := by rw [h2, El.one_mul]
  rw [this]
  exact ⟨rfl, Like.drew w⟩
end Go.Proofs.Ytbaljbadlfopgaa.Fw

namespace Go.Proofs.Ytbaljbadlfopgaa.Fw
open Go Go.Fw
/-- The ring's two functions. -/
def Mul_w (w : World) (v : Value) : Prop := v = .func (.func 70) #[] #[]
def Inv_w (w : World) (v : Value) : Prop := v = .func (.func 71) #[] #[]
def Mul_b (w : World) (v : Value) : Prop := ∃ p, v = .func (.func 85) #[p] #[] ∧ Tab8 w p
def Inv_b (w : World) (v : Value) : Prop := ∃ p, v = .func (.func 86) #[p] #[] ∧ Tab8 w p
def Ring_w (w : World) (r : Value) : Prop := ∃ b mv iv, r = .pointer (some ⟨b, 0, none⟩) ∧ Row w b [mv, iv] ∧ Mul_w w mv ∧ Inv_w w iv
def Ring_b (w : World) (r : Value) : Prop := ∃ b mv iv, r = .pointer (some ⟨b, 0, none⟩) ∧ Row w b [mv, iv] ∧ Mul_b w mv ∧ Inv_b w iv
theorem Ring_w.up {w w' : World} {r : Value} (h : Ring_w w r) (hb : RowKit.Below w.heap.size w w') : Ring_w w' r := by
  obtain ⟨b, mv, iv, h1, h2, h3, h4⟩ := h
  exact ⟨b, mv, iv, h1, h2.up hb, h3, h4⟩
theorem Ring_b.up {w w' : World} {r : Value} (h : Ring_b w r) (hb : RowKit.Below w.heap.size w w') : Ring_b w' r := by
  obtain ⟨b, mv, iv, h1, h2, ⟨p, h3, h4⟩, ⟨q, h5, h6⟩⟩ := h
  exact ⟨b, mv, iv, h1, h2.up hb, ⟨p, h3, h4.up hb⟩, ⟨q, h5, h6.up hb⟩⟩
theorem Ring_w.drew {w : World} {r : Value} (h : Ring_w w r) : Ring_w w.drew r := h.up (bel_drew w)
theorem Ring_b.drew {w : World} {r : Value} (h : Ring_b w r) : Ring_b w.drew r := h.up (bel_drew w)
theorem Mul_w.call {w : World} {v : Value} (h : Mul_w w v) (x y : El 16) {K : Value → World → Prop} (hk : ∀ w', Like w w' → K (.int .u16 ((x * y).v.toNat : Int)) w') : callK Try.prog v [.int .u16 (x.v.toNat : Int), .int .u16 (y.v.toNat : Int)] w K := by
  obtain rfl := h
  refine (gf16_Mul_spec w x y).mono ?_
  rintro _ _ ⟨rfl, rfl⟩
  exact hk _ (Like.refl _)
theorem Mul_b.call {w : World} {v : Value} (h : Mul_b w v) (x y : El 8) {K : Value → World → Prop} (hk : ∀ w', Like w w' → K (.int .u8 ((x * y).v.toNat : Int)) w') : callK Try.prog v [.int .u8 (x.v.toNat : Int), .int .u8 (y.v.toNat : Int)] w K := by
  obtain ⟨p, rfl, ht⟩ := h
  refine (gf8_Tables_Mul_spec w p ht x y).mono ?_
  rintro _ _ ⟨rfl, hl⟩
  exact hk _ hl
theorem polys_Over8_spec (w : World) : CallV Try.prog 55 [] w fun v w' => Ring_b w' v ∧ RowKit.Below w.heap.size w w' ∧ ∀ w2, Stays w w' w2 → Ring_b w2 v := by
  refine run_polys_Over8 (by simp) ?_
  simp only [c_polys_Over8, WS, ↓reduceIte, Nat.reduceEqDiff, reduceCtorEq]
  refine X_call0 ((gf8_New_spec w).mono ?_)
  rintro p w1 ⟨ht, hB1, hst⟩
  have hf : ∀ f g : Value, fillL [.nilFunc, .nilFunc] [(0, 1, Value.func (.func 85) #[p] #[]), (0 + 1, 1, Value.func (.func 86) #[p] #[])] = some [Value.func (.func 85) #[p] #[], Value.func (.func 86) #[p] #[]] := fun _ _ => rfl
  simp only [WS, ↓reduceIte, Nat.reduceEqDiff, reduceCtorEq, X_bld]
  refine X_box ?_
  intro b w' hr hb hB
  simp only [WS, ↓reduceIte, Nat.reduceEqDiff, reduceCtorEq]
  refine ⟨⟨b, _, _, rfl, hr, ⟨p, rfl, ht.up hB⟩, ⟨p, rfl, ht.up hB⟩⟩, hB1.trans (hB.mono hB1.size), fun w2 hs => ?_⟩
  have ht2 : Tab8 w2 p := hst w2 fun k h1 h2 => (hs k h1 (Nat.lt_of_lt_of_le h2 hB.size)).trans (hB.block k h2)
  exact ⟨b, _, _, rfl, hr.stays (Nat.le_trans hB1.size hb) hs, ⟨p, rfl, ht2⟩, ⟨p, rfl, ht2⟩⟩
end Go.Proofs.Ytbaljbadlfopgaa.Fw

/- Powers of two; an element by its four digits. Plain maths. -/
set_option linter.unusedVariables false
namespace Go.Fw
/-- The element of a number -/
def eN (n : Nat) : El 16 := ⟨BitVec.ofNat 16 n⟩
theorem badd_and (m : BitVec 16) : BAdd (fun a : BitVec 16 => a &&& m) := fun a b => by
  apply BitVec.eq_of_getLsbD_eq; intro i hi
  simp only [BitVec.getLsbD_and, BitVec.getLsbD_xor]
  cases a.getLsbD i <;> cases b.getLsbD i <;> cases m.getLsbD i <;> rfl
theorem badd_shl (k : Nat) : BAdd (fun a : BitVec 16 => a <<< k) := fun a b => BitVec.shiftLeft_xor_distrib a b k
theorem digits (x : BitVec 16) : (x &&& 15#16) ^^^ (((x >>> 4) &&& 15#16) <<< 4) ^^^ (((x >>> 8) &&& 15#16) <<< 8) ^^^ ((x >>> 12) <<< 12) = x :=
  BAdd.ext (f := fun x => (x &&& 15#16) ^^^ (((x >>> 4) &&& 15#16) <<< 4) ^^^ (((x >>> 8) &&& 15#16) <<< 8) ^^^ ((x >>> 12) <<< 12))
    (BAdd.xor (BAdd.xor (BAdd.xor (badd_and _) (BAdd.comp (badd_shl 4) (BAdd.comp (badd_and _) (badd_shr 16 4)))) (BAdd.comp (badd_shl 8) (BAdd.comp (badd_and _) (badd_shr 16 8)))) (BAdd.comp (badd_shl 12) (badd_shr 16 12))) badd_id (by decide +kernel) x
/-- What the table of the n-th digit holds at x. -/
def want (c : El 16) (n x : Nat) : El 16 := c * eN (x <<< (4 * n))
end Go.Fw
