import Derived.Test.YtcdagkcchfibjaaGfBM
set_option linter.all false
/- The powers of 2 in the field of 256 elements, and their logarithms. -/
set_option linter.unusedVariables false
namespace Go.Fw
/-- 2^j -/
def gp (j : Nat) : BitVec 8 := pw r8 1 j
def lg8 : List Nat := [0, 0, 1, 25, 2, 50, 26, 198, 3, 223, 51, 238, 27, 104, 199, 75, 4, 100, 224, 14, 52, 141, 239, 129, 28, 193, 105, 248, 200, 8, 76, 113, 5, 138, 101, 47, 225, 36, 15, 33, 53, 147, 142, 218, 240, 18, 130, 69, 29, 181, 194, 125, 106, 39, 249, 185, 201, 154, 9, 120, 77, 228, 114, 166, 6, 191, 139, 98, 102, 221, 48, 253, 226, 152, 37, 179, 16, 145, 34, 136, 54, 208, 148, 206, 143, 150, 219, 189, 241, 210, 19, 92, 131, 56, 70, 64, 30, 66, 182, 163, 195, 72, 126, 110, 107, 58, 40, 84, 250, 133, 186, 61, 202, 94, 155, 159, 10, 21, 121, 43, 78, 212, 229, 172, 115, 243, 167, 87, 7, 112, 192, 247, 140, 128, 99, 13, 103, 74, 222, 237, 49, 197, 254, 24, 227, 165, 153, 119, 38, 184, 180, 124, 17, 68, 146, 217, 35, 32, 137, 46, 55, 63, 209, 91, 149, 188, 207, 205, 144, 135, 151, 178, 220, 252, 190, 97, 242, 86, 211, 171, 20, 42, 93, 158, 132, 60, 57, 83, 71, 109, 65, 162, 31, 45, 67, 216, 183, 123, 164, 118, 196, 23, 73, 236, 127, 12, 111, 246, 108, 161, 59, 82, 41, 157, 85, 170, 251, 96, 134, 177, 187, 204, 62, 90, 203, 89, 95, 176, 156, 169, 160, 81, 11, 245, 22, 235, 122, 117, 44, 215, 79, 174, 213, 233, 230, 231, 173, 232, 116, 214, 244, 234, 168, 80, 88, 175]
theorem gp_lg : ∀ a : Fin 256, a.val ≠ 0 → gp (lg8.getD a.val 0) = BitVec.ofNat 8 a.val ∧ lg8.getD a.val 0 < 255 := by decide +kernel
theorem gp_ex (a : BitVec 8) (h : a ≠ 0) : ∃ j, j < 255 ∧ gp j = a := by
  have hn : a.toNat ≠ 0 := fun e => h (BitVec.eq_of_toNat_eq e)
  obtain ⟨h1, h2⟩ := gp_lg ⟨a.toNat, a.isLt⟩ hn
  exact ⟨_, h2, by rw [h1]; simp⟩
theorem gp_255 : gp 255 = 1 := by decide +kernel
theorem gp_ne : ∀ d : Fin 255, d.val ≠ 0 → gp d.val ≠ 1 := by decide +kernel
theorem bmul_pw (a b : BitVec 8) (j : Nat) : pw r8 (bmul r8 a b) j = bmul r8 (pw r8 a j) b := by
  unfold bmul
  have hs : ∀ (f : Nat → BitVec 8) m, pw r8 (bsum f m) j = bsum (fun i => pw r8 (f i) j) m := by
    intro f m
    induction m with
    | zero => exact pw_zero r8 j
    | succ m ih => simp only [bsum, pw_xor, ih]
  rw [hs]
  refine bsum_congr 8 fun i _ => ?_
  rw [pw_sel, pw_add, pw_add, Nat.add_comm]
theorem gp_mul (i j : Nat) : bmul r8 (gp i) (gp j) = gp (i + j) := by
  rw [c8]
  have := bmul_pw 1 (gp i) j
  rw [c8 1, o8] at this
  unfold gp at *
  rw [← this, pw_add]
theorem gp_nz (j : Nat) : gp j ≠ 0 := by
  intro h
  induction j with
  | zero => exact absurd h (by decide)
  | succ j ih =>
    have h2 : ∀ a : BitVec 8, mx r8 a = 0 → a = 0 := by decide +kernel
    exact ih (h2 _ h)
theorem gp_wrap (j : Nat) : gp (255 + j) = gp j := by rw [← gp_mul, gp_255, c8, o8]
theorem gp_inj {i j : Nat} (hi : i < 255) (hj : j < 255) (h : gp i = gp j) : i = j := by
  have key : ∀ i j : Nat, i ≤ j → j < 255 → gp i = gp j → i = j := by
    intro i j hij hj h
    by_cases he : i = j
    · exact he
    exfalso
    refine gp_ne ⟨j - i, by omega⟩ (by show j - i ≠ 0; omega) ?_
    show gp (j - i) = 1
    have h1 : gp j = bmul r8 (gp i) (gp (j - i)) := by rw [gp_mul]; congr 1; omega
    rw [← h] at h1
    have h2 : (⟨gp i⟩ : El 8) * (⟨gp (j - i)⟩ + 1) = 0 := by
      rw [El.mul_add, El.mul_one]
      apply El.ext
      show bmul r8 (gp i) (gp (j - i)) ^^^ gp i = 0
      rw [← h1, BitVec.xor_self]
      rfl
    rcases El.mul_eq_zero.1 h2 with h3 | h3
    · exact absurd (congrArg El.v h3) (gp_nz i)
    · exact congrArg El.v (El.eq_of_add h3)
  rcases Nat.le_total i j with hij | hij
  · exact key i j hij hj h
  · exact (key j i hij hi h.symm).symm
theorem mx8_val : ∀ s : BitVec 8, (if s.msb then (s.toNat <<< 1) ^^^ 285 else s.toNat <<< 1) = (mx r8 s).toNat := by decide +kernel
theorem and256 : ∀ s : BitVec 8, (s.toNat <<< 1) &&& 256 = if s.msb then 256 else 0 := by decide +kernel
theorem bsum_ext_zero {n : Nat} (f : Nat → BitVec n) (m : Nat) : ∀ k, (∀ i, m ≤ i → i < m + k → f i = 0) → bsum f (m + k) = bsum f m
  | 0, _ => rfl
  | k + 1, h => by
    show bsum f (m + k) ^^^ f (m + k) = _
    rw [bsum_ext_zero f m k (fun i h1 h2 => h i h1 (by omega)), h (m + k) (by omega) (by omega)]
    exact BitVec.xor_zero
end Go.Fw

/- Series and polynomials over the two fields. Plain maths. -/
set_option linter.unusedVariables false
set_option linter.unusedSectionVars false
namespace Go.Fw
variable {n : Nat}

/-- Coefficients. -/
structure Ps (n : Nat) where
  c : Nat → El n
theorem Ps.ext {f g : Ps n} (h : ∀ i, f.c i = g.c i) : f = g := by cases f; cases g; congr 1; exact funext h
def Ps.sh (f : Ps n) : Ps n := ⟨fun i => f.c (i + 1)⟩
instance : Add (Ps n) := ⟨fun f g => ⟨fun i => f.c i + g.c i⟩⟩
instance : Zero (Ps n) := ⟨⟨fun _ => 0⟩⟩
theorem Ps.add_c (f g : Ps n) (i : Nat) : (f + g).c i = f.c i + g.c i := rfl
theorem Ps.zero_c (i : Nat) : (0 : Ps n).c i = 0 := rfl
theorem Ps.add_comm (f g : Ps n) : f + g = g + f := Ps.ext fun i => El.add_comm _ _
theorem Ps.add_assoc (f g h : Ps n) : f + g + h = f + (g + h) := Ps.ext fun i => El.add_assoc _ _ _
instance : Std.Commutative (α := Ps n) (· + ·) := ⟨Ps.add_comm⟩
instance : Std.Associative (α := Ps n) (· + ·) := ⟨Ps.add_assoc⟩
theorem Ps.add_self (f : Ps n) : f + f = 0 := Ps.ext fun i => El.add_self _
theorem Ps.add_zero (f : Ps n) : f + 0 = f := Ps.ext fun i => El.add_zero _
theorem Ps.zero_add (f : Ps n) : 0 + f = f := Ps.ext fun i => El.zero_add _
theorem Ps.add_cancel (f g : Ps n) : f + g + g = f := by rw [Ps.add_assoc, Ps.add_self, Ps.add_zero]
theorem Ps.eq_of_add {f g : Ps n} (h : f + g = 0) : f = g := by
  have := Ps.add_cancel f g
  rw [h, Ps.zero_add] at this
  exact this.symm
variable [F : Fd n]
def mc (f g : Ps n) : Nat → El n
  | 0 => f.c 0 * g.c 0
  | k + 1 => f.c 0 * g.c (k + 1) + mc f.sh g k
instance : Mul (Ps n) := ⟨fun f g => ⟨mc f g⟩⟩
instance : One (Ps n) := ⟨⟨fun i => if i = 0 then 1 else 0⟩⟩
/-- A constant. -/
def Ps.C (a : El n) : Ps n := ⟨fun i => if i = 0 then a else 0⟩
theorem Ps.mul_0 (f g : Ps n) : (f * g).c 0 = f.c 0 * g.c 0 := rfl
theorem Ps.mul_s (f g : Ps n) (k : Nat) : (f * g).c (k + 1) = f.c 0 * g.c (k + 1) + (f.sh * g).c k := rfl
theorem Ps.sh_c (f : Ps n) (i : Nat) : f.sh.c i = f.c (i + 1) := rfl
theorem Ps.mul_add_c (f g h : Ps n) : ∀ k, (f * (g + h)).c k = (f * g).c k + (f * h).c k := by
  intro k
  induction k generalizing f with
  | zero => exact El.mul_add _ _ _
  | succ k ih => simp only [Ps.mul_s, ih, Ps.add_c, El.mul_add]; ac_rfl
theorem Ps.add_mul_c (f g h : Ps n) : ∀ k, ((f + g) * h).c k = (f * h).c k + (g * h).c k := by
  intro k
  induction k generalizing f g with
  | zero => exact El.add_mul _ _ _
  | succ k ih =>
    simp only [Ps.mul_s, Ps.add_c, El.add_mul]
    rw [show (f + g).sh = f.sh + g.sh from rfl, ih]
    ac_rfl
theorem Ps.mul_add (f g h : Ps n) : f * (g + h) = f * g + f * h := Ps.ext (Ps.mul_add_c f g h)
theorem Ps.add_mul (f g h : Ps n) : (f + g) * h = f * h + g * h := Ps.ext (Ps.add_mul_c f g h)
theorem Ps.mul_s' (f g : Ps n) (k : Nat) : (f * g).c (k + 1) = f.c (k + 1) * g.c 0 + (f * g.sh).c k := by
  induction k generalizing f with
  | zero => simp only [Ps.mul_s, Ps.mul_0, Ps.sh_c]; exact El.add_comm _ _
  | succ k ih => rw [Ps.mul_s, ih, Ps.mul_s f g.sh]; simp only [Ps.sh_c]; ac_rfl
theorem Ps.mul_comm (f g : Ps n) : f * g = g * f := by
  refine Ps.ext fun k => ?_
  induction k generalizing f g with
  | zero => exact El.mul_comm _ _
  | succ k ih => rw [Ps.mul_s, Ps.mul_s', ih, El.mul_comm]
theorem Ps.smul_c (a : El n) (f g : Ps n) : ∀ k, ((⟨fun i => a * f.c i⟩ : Ps n) * g).c k = a * (f * g).c k := by
  intro k
  induction k generalizing f with
  | zero => exact El.mul_assoc _ _ _
  | succ k ih =>
    rw [Ps.mul_s, Ps.mul_s, El.mul_add]
    rw [show (⟨fun i => a * f.c i⟩ : Ps n).sh = ⟨fun i => a * f.sh.c i⟩ from rfl, ih, El.mul_assoc]
theorem Ps.sh_mul (f g : Ps n) : (f * g).sh = (⟨fun i => f.c 0 * g.sh.c i⟩ : Ps n) + f.sh * g := Ps.ext fun k => rfl
theorem Ps.mul_assoc (f g h : Ps n) : f * g * h = f * (g * h) := by
  refine Ps.ext fun k => ?_
  induction k generalizing f g h with
  | zero => exact El.mul_assoc _ _ _
  | succ k ih =>
    rw [Ps.mul_s, Ps.sh_mul, Ps.add_mul, Ps.add_c, Ps.smul_c, ih, Ps.mul_s f, Ps.mul_s g, El.mul_add, Ps.mul_0, El.mul_assoc, El.add_assoc]
instance : Std.Commutative (α := Ps n) (· * ·) := ⟨Ps.mul_comm⟩
instance : Std.Associative (α := Ps n) (· * ·) := ⟨Ps.mul_assoc⟩
theorem Ps.zero_mul (f : Ps n) : 0 * f = 0 := by
  have h := Ps.add_mul 0 0 f
  rw [Ps.add_self, Ps.add_self] at h
  exact h
theorem Ps.mul_zero (f : Ps n) : f * 0 = 0 := by rw [Ps.mul_comm, Ps.zero_mul]
theorem Ps.C_mul (a : El n) (f : Ps n) (k : Nat) : (Ps.C a * f).c k = a * f.c k := by
  cases k with
  | zero => rfl
  | succ k =>
    rw [Ps.mul_s, show (Ps.C a : Ps n).sh = 0 from Ps.ext fun i => by show (if i + 1 = 0 then a else 0) = 0; simp, Ps.zero_mul, Ps.zero_c, El.add_zero]; rfl
theorem Ps.one_mul (f : Ps n) : 1 * f = f := Ps.ext fun k => by
  rw [show (1 : Ps n) = Ps.C 1 from rfl, Ps.C_mul, El.one_mul]
theorem Ps.mul_one (f : Ps n) : f * 1 = f := by rw [Ps.mul_comm, Ps.one_mul]
/-- X times f -/
def Ps.X (f : Ps n) : Ps n := ⟨fun i => match i with | 0 => 0 | i + 1 => f.c i⟩
theorem Ps.X_mul (f g : Ps n) : f.X * g = (f * g).X := Ps.ext fun k => by
  cases k with
  | zero => exact El.zero_mul _
  | succ k => rw [Ps.mul_s]; show 0 * _ + (f * g).c k = _; rw [El.zero_mul, El.zero_add]; rfl
theorem Ps.split (f : Ps n) : f = Ps.C (f.c 0) + f.sh.X := Ps.ext fun k => by
  cases k with
  | zero => show f.c 0 = f.c 0 + 0; rw [El.add_zero]
  | succ k => show f.c (k + 1) = 0 + f.c (k + 1); rw [El.zero_add]

/-! Degrees -/
/-- f's degree is below d. -/
def Dg (f : Ps n) (d : Nat) : Prop := ∀ i, d ≤ i → f.c i = 0
theorem Dg.mono {f : Ps n} {d e : Nat} (h : Dg f d) (hd : d ≤ e) : Dg f e := fun i hi => h i (by omega)
theorem Dg.add {f g : Ps n} {d : Nat} (hf : Dg f d) (hg : Dg g d) : Dg (f + g) d := fun i hi => by rw [Ps.add_c, hf i hi, hg i hi, El.add_zero]
theorem Dg.zero {f : Ps n} (h : Dg f 0) : f = 0 := Ps.ext fun i => h i (by omega)
theorem Dg.sh {f : Ps n} {d : Nat} (h : Dg f (d + 1)) : Dg f.sh d := fun i hi => h (i + 1) (by omega)
theorem Dg.mul {f g : Ps n} : ∀ {a b : Nat}, Dg f a → Dg g b → Dg (f * g) (a + b - 1)
  | 0, b, hf, hg => by rw [hf.zero, Ps.zero_mul]; exact fun i _ => rfl
  | a + 1, b, hf, hg => fun i hi => by
    cases i with
    | zero =>
      have : b = 0 := by omega
      subst this
      rw [hg.zero, Ps.mul_zero]; rfl
    | succ i =>
      rw [Ps.mul_s, hg (i + 1) (by omega), El.mul_zero, El.zero_add]
      exact Dg.mul hf.sh hg i (by omega)
/-- The highest coefficient of a product. -/
theorem Ps.mul_top {f g : Ps n} : ∀ {a b : Nat}, Dg f (a + 1) → Dg g (b + 1) → (f * g).c (a + b) = f.c a * g.c b
  | 0, b, hf, hg => by
    have h1 : f.sh = 0 := hf.sh.zero
    cases b with
    | zero => rfl
    | succ b => rw [Nat.zero_add, Ps.mul_s, h1, Ps.zero_mul, Ps.zero_c, El.add_zero]
  | a + 1, b, hf, hg => by
    rw [show a + 1 + b = (a + b) + 1 by omega, Ps.mul_s, hg (a + b + 1) (by omega), El.mul_zero, El.zero_add]
    exact Ps.mul_top hf.sh hg

/-! Values -/
/-! Lists -/
def co (l : List (El n)) : Ps n := ⟨fun i => l.getD i 0⟩
theorem co_nil : co ([] : List (El n)) = 0 := rfl
theorem co_dg (l : List (El n)) : Dg (co l) l.length := fun i hi => by
  show l.getD i 0 = 0
  rw [List.getD_eq_getElem?_getD, List.getElem?_eq_none hi]; rfl
theorem co_get (l : List (El n)) {i : Nat} (h : i < l.length) : (co l).c i = l[i] := by
  show l.getD i 0 = _
  rw [List.getD_eq_getElem?_getD, List.getElem?_eq_getElem h]; rfl
theorem co_ext {l m : List (El n)} (hl : l.length = m.length) (h : co l = co m) : l = m := by
  refine List.ext_getElem hl fun i h1 h2 => ?_
  rw [← co_get l h1, ← co_get m h2, h]
theorem co_take {l : List (El n)} {k : Nat} (h : ∀ i, k ≤ i → (co l).c i = 0) : co (l.take k) = co l := Ps.ext fun i => by
  by_cases hi : i < k
  · show (l.take k).getD i 0 = l.getD i 0
    rw [List.getD_eq_getElem?_getD, List.getElem?_take, if_pos hi, List.getD_eq_getElem?_getD]
  · rw [h i (by omega)]
    exact co_dg (l.take k) i (by simp; omega)
theorem co_append_zeros (l : List (El n)) (k : Nat) : co (l ++ List.replicate k 0) = co l := Ps.ext fun i => by
  show (l ++ List.replicate k 0).getD i 0 = l.getD i 0
  simp only [List.getD_eq_getElem?_getD, List.getElem?_append, List.getElem?_replicate]
  split
  · rfl
  · rename_i h
    rw [List.getElem?_eq_none (by omega)]
    split <;> rfl
/-- The length without the zeros at the end. -/
def tln : List (El n) → Nat
  | [] => 0
  | x :: l => if tln l = 0 then (if x = 0 then 0 else 1) else tln l + 1
theorem tln_le : ∀ l : List (El n), tln l ≤ l.length
  | [] => Nat.le_refl _
  | x :: l => by have := tln_le l; unfold tln; simp only [List.length_cons]; split <;> (try split) <;> omega
theorem tln_dg : ∀ l : List (El n), Dg (co l) (tln l)
  | [] => fun i _ => rfl
  | x :: l => fun i hi => by
    have ih := tln_dg l
    unfold tln at hi
    cases i with
    | zero =>
      split at hi
      · split at hi
        · rename_i h; exact h
        · omega
      · omega
    | succ i =>
      show (co l).c i = 0
      refine ih i ?_
      split at hi
      · omega
      · omega
theorem tln_top : ∀ (l : List (El n)) (k : Nat), tln l = k + 1 → (co l).c k ≠ 0
  | [], k, h => by simp [tln] at h
  | x :: l, k, h => by
    unfold tln at h
    split at h
    · split at h
      · omega
      · rename_i h2
        have : k = 0 := by omega
        subst this
        exact h2
    · have : k = tln l - 1 + 1 := by omega
      rw [this]
      exact tln_top l (tln l - 1) (by omega)
theorem tln_of {l : List (El n)} {k : Nat} (h1 : Dg (co l) k) (h2 : k = 0 ∨ (co l).c (k - 1) ≠ 0) : tln l = k := by
  rcases Nat.lt_trichotomy (tln l) k with h | h | h
  · rcases h2 with h2 | h2
    · omega
    · exact absurd (tln_dg l (k - 1) (by omega)) h2
  · exact h
  · exact absurd (h1 (tln l - 1) (by omega)) (tln_top l (tln l - 1) (by omega))
/-- without the zeros at the end -/
def tr (l : List (El n)) : List (El n) := l.take (tln l)
theorem tr_co (l : List (El n)) : co (tr l) = co l := co_take (tln_dg l)
theorem tr_len (l : List (El n)) : (tr l).length = tln l := by unfold tr; rw [List.length_take]; have := tln_le l; omega
theorem tln_co {l m : List (El n)} (h : co l = co m) : tln l = tln m := by
  refine tln_of (by rw [h]; exact tln_dg m) ?_
  by_cases h0 : tln m = 0
  · exact Or.inl h0
  · right; rw [h]; exact tln_top m _ (by omega)
theorem tr_eq {l m : List (El n)} (h : co l = co m) : tr l = tr m := co_ext (by rw [tr_len, tr_len, tln_co h]) (by rw [tr_co, tr_co, h])
theorem tr_tr (l : List (El n)) : tr (tr l) = tr l := tr_eq (tr_co l)
/-- The first m coefficients. -/
def ofc (m : Nat) (f : Ps n) : List (El n) := (List.range m).map f.c
theorem ofc_len (m : Nat) (f : Ps n) : (ofc m f).length = m := by simp [ofc]
theorem ofc_co {m : Nat} {f : Ps n} (h : Dg f m) : co (ofc m f) = f := Ps.ext fun i => by
  by_cases hi : i < m
  · rw [co_get _ (by rw [ofc_len]; exact hi)]; simp [ofc]
  · rw [h i (by omega)]; exact co_dg _ i (by rw [ofc_len]; omega)
/-- x X^i -/
def Ps.mono (i : Nat) (x : El n) : Ps n := ⟨fun k => if k = i then x else 0⟩
theorem Ps.mono_mul (x : El n) (g : Ps n) : ∀ (i k : Nat), (Ps.mono i x * g).c k = if i ≤ k then x * g.c (k - i) else 0
  | 0, k => by
    rw [if_pos (by omega), Nat.sub_zero]
    exact Ps.C_mul x g k
  | i + 1, k => by
    have e : (Ps.mono (i + 1) x : Ps n) = (Ps.mono i x).X := Ps.ext fun j => by
      cases j with
      | zero => show (if 0 = i + 1 then x else 0) = 0; rw [if_neg (by omega)]
      | succ j => show (if j + 1 = i + 1 then x else 0) = (if j = i then x else 0); simp
    rw [e, Ps.X_mul]
    cases k with
    | zero => rw [if_neg (by omega)]; rfl
    | succ k =>
      show (Ps.mono i x * g).c k = _
      rw [Ps.mono_mul x g i k]
      by_cases h : i ≤ k
      · rw [if_pos h, if_pos (by omega), show k + 1 - (i + 1) = k - i by omega]
      · rw [if_neg h, if_neg (by omega)]
theorem co_take_succ (l : List (El n)) {i : Nat} (h : i < l.length) : co (l.take (i + 1)) = co (l.take i) + Ps.mono i l[i] := Ps.ext fun k => by
  show (l.take (i + 1)).getD k 0 = (l.take i).getD k 0 + (if k = i then l[i] else 0)
  simp only [List.getD_eq_getElem?_getD, List.getElem?_take]
  by_cases h1 : k < i
  · rw [if_pos (by omega), if_pos h1, if_neg (by omega), El.add_zero]
  · by_cases h2 : k = i
    · subst h2
      rw [if_pos (by omega), if_neg (by omega), if_pos rfl, List.getElem?_eq_getElem h]
      exact (El.zero_add _).symm
    · rw [if_neg (by omega), if_neg (by omega), if_neg h2]
      exact (El.add_zero _).symm
theorem mono_zero (i : Nat) : (Ps.mono i 0 : Ps n) = 0 := Ps.ext fun k => by show (if k = i then (0 : El n) else 0) = 0; split <;> rfl
theorem co_set (l : List (El n)) {i : Nat} (h : i < l.length) (x : El n) (k : Nat) : (co (l.set i x)).c k = if k = i then x else (co l).c k := by
  show (l.set i x).getD k 0 = _
  rw [List.getD_eq_getElem?_getD, List.getElem?_set]
  by_cases hk : k = i
  · subst hk; rw [if_pos rfl, if_pos h, if_pos rfl]; rfl
  · rw [if_neg (fun e => hk e.symm), if_neg hk]; rfl
theorem co_replicate (m : Nat) : co (List.replicate m (0 : El n)) = 0 := Ps.ext fun k => by
  show (List.replicate m (0 : El n)).getD k 0 = 0
  rw [List.getD_eq_getElem?_getD, List.getElem?_replicate]
  split <;> rfl
theorem tr_mul {l m p : List (El n)} (hp : co p = co l * co m) (hl : tln l ≠ 0) (hm : tln m ≠ 0) (hlen : p.length = tln l + tln m - 1) : tr p = p := by
  have h1 : (co l * co m).c (tln l - 1 + (tln m - 1)) = (co l).c (tln l - 1) * (co m).c (tln m - 1) :=
    Ps.mul_top (by rw [show tln l - 1 + 1 = tln l by omega]; exact tln_dg l) (by rw [show tln m - 1 + 1 = tln m by omega]; exact tln_dg m)
  have h2 : tln p = p.length := by
    refine tln_of (co_dg p) (Or.inr ?_)
    rw [hp, hlen, show tln l + tln m - 1 - 1 = tln l - 1 + (tln m - 1) by omega, h1]
    intro h
    rcases El.mul_eq_zero.1 h with h | h
    · exact tln_top l _ (by omega) h
    · exact tln_top m _ (by omega) h
  unfold tr
  rw [h2, List.take_length]
theorem co_zero_of_tln {l : List (El n)} (h : tln l = 0) : co l = 0 := (show Dg (co l) 0 by rw [← h]; exact tln_dg l).zero
/-- The formal derivative. -/
def Ps.D (f : Ps n) : Ps n := ⟨fun i => if i % 2 = 0 then f.c (i + 1) else 0⟩
/-- The value, by Horner. -/
def evl : List (El n) → El n → El n
  | [], _ => 0
  | a :: l, x => a + x * evl l x
theorem evl_drop (x : El n) (l : List (El n)) {k : Nat} (h : k < l.length) : evl (l.drop k) x = l[k] + x * evl (l.drop (k + 1)) x := by
  rw [List.drop_eq_getElem_cons h]; rfl
/-- X + x -/
def lin (x : El n) : Ps n := ⟨fun k => if k = 0 then x else if k = 1 then 1 else 0⟩
theorem lin_mul (x : El n) (p : Ps n) (k : Nat) : (lin x * p).c k = x * p.c k + (if k = 0 then 0 else p.c (k - 1)) := by
  have e : (lin x : Ps n) = Ps.C x + Ps.X 1 := Ps.ext fun i => by
    show (if i = 0 then x else if i = 1 then 1 else 0) = (if i = 0 then x else 0) + (match i with | 0 => 0 | i + 1 => (if i = 0 then 1 else 0))
    rcases i with _ | _ | i
    · simp [El.add_zero]
    · simp [El.zero_add]
    · simp [El.zero_add]
  rw [e, Ps.add_mul, Ps.add_c, Ps.C_mul, Ps.X_mul, Ps.one_mul]
  cases k <;> rfl
/-- The product of all X + x. -/
def vps (l : List (El n)) : Ps n := l.foldl (fun p x => lin x * p) 1
theorem vps_take (l : List (El n)) {i : Nat} (h : i < l.length) : vps (l.take (i + 1)) = lin l[i] * vps (l.take i) := by
  unfold vps
  rw [List.take_add_one, List.getElem?_eq_getElem h, List.foldl_append]
  rfl
theorem lin_dg (x : El n) : Dg (lin x) 2 := fun i hi => by show (if i = 0 then x else if i = 1 then (1 : El n) else 0) = 0; rw [if_neg (by omega), if_neg (by omega)]
end Go.Fw
