set_option linter.all false
/- The two fields, of 2^8 and of 2^16 elements: bits and their products. Plain maths. -/
set_option linter.unusedVariables false
namespace Go.Fw

/-- Sum (by xor) of the first m. -/
def bsum {n : Nat} (f : Nat → BitVec n) : Nat → BitVec n
  | 0 => 0
  | m + 1 => bsum f m ^^^ f m
theorem bsum_congr {n : Nat} {f g : Nat → BitVec n} : ∀ m, (∀ i, i < m → f i = g i) → bsum f m = bsum g m
  | 0, _ => rfl
  | m + 1, h => by simp only [bsum, bsum_congr m (fun i hi => h i (by omega)), h m (by omega)]
theorem bsum_xor {n : Nat} (f g : Nat → BitVec n) : ∀ m, bsum (fun i => f i ^^^ g i) m = bsum f m ^^^ bsum g m
  | 0 => by simp [bsum]
  | m + 1 => by simp only [bsum, bsum_xor f g m]; ac_rfl
def sel {n : Nat} (c : Bool) (a : BitVec n) : BitVec n := if c then a else 0
theorem sel_xor {n : Nat} (c : Bool) (a b : BitVec n) : sel c (a ^^^ b) = sel c a ^^^ sel c b := by cases c <;> simp [sel]
theorem sel_bxor {n : Nat} (c d : Bool) (a : BitVec n) : sel (c ^^ d) a = sel c a ^^^ sel d a := by cases c <;> cases d <;> simp [sel]
section
variable {n : Nat} (r : BitVec n)
/-- times x, modulo x^n + r. -/
def mx (a : BitVec n) : BitVec n := if a.msb then (a <<< 1) ^^^ r else a <<< 1
theorem mx_xor (a b : BitVec n) : mx r (a ^^^ b) = mx r a ^^^ mx r b := by
  unfold mx
  rw [BitVec.msb_xor, BitVec.shiftLeft_xor_distrib]
  generalize a <<< 1 = x
  generalize b <<< 1 = y
  cases a.msb <;> cases b.msb
  · rfl
  · show x ^^^ y ^^^ r = x ^^^ (y ^^^ r); ac_rfl
  · show x ^^^ y ^^^ r = x ^^^ r ^^^ y; ac_rfl
  · show x ^^^ y = x ^^^ r ^^^ (y ^^^ r)
    rw [show x ^^^ r ^^^ (y ^^^ r) = x ^^^ y ^^^ (r ^^^ r) by ac_rfl, BitVec.xor_self, BitVec.xor_zero]
/-- a times x^i -/
def pw (a : BitVec n) : Nat → BitVec n
  | 0 => a
  | i + 1 => mx r (pw a i)
theorem pw_xor (a b : BitVec n) : ∀ i, pw r (a ^^^ b) i = pw r a i ^^^ pw r b i
  | 0 => rfl
  | i + 1 => by simp only [pw, pw_xor a b i, mx_xor]
def bmul (a b : BitVec n) : BitVec n := bsum (fun i => sel (b.getLsbD i) (pw r a i)) n
theorem bmul_xor_left (a a' b : BitVec n) : bmul r (a ^^^ a') b = bmul r a b ^^^ bmul r a' b := by
  unfold bmul
  rw [← bsum_xor]
  exact bsum_congr n fun i _ => by rw [pw_xor, sel_xor]
theorem bmul_xor_right (a b b' : BitVec n) : bmul r a (b ^^^ b') = bmul r a b ^^^ bmul r a b' := by
  unfold bmul
  rw [← bsum_xor]
  exact bsum_congr n fun i _ => by rw [BitVec.getLsbD_xor, sel_bxor]
end

/-- An additive map. -/
def BAdd {n m : Nat} (f : BitVec n → BitVec m) : Prop := ∀ a b, f (a ^^^ b) = f a ^^^ f b
section
variable {n m : Nat}
theorem BAdd.zero {f : BitVec n → BitVec m} (h : BAdd f) : f 0 = 0 := by
  have := h 0 0
  rw [BitVec.xor_self] at this
  rw [BitVec.xor_self] at this
  exact this
theorem BAdd.sum {f : BitVec n → BitVec m} (hf : BAdd f) (g : Nat → BitVec n) : ∀ k, f (bsum g k) = bsum (fun i => f (g i)) k
  | 0 => hf.zero
  | k + 1 => by show f (bsum g k ^^^ g k) = bsum (fun i => f (g i)) k ^^^ f (g k); rw [hf, BAdd.sum hf g k]
theorem BAdd.sel {f : BitVec n → BitVec m} (hf : BAdd f) (c : Bool) (a : BitVec n) : f (Fw.sel c a) = Fw.sel c (f a) := by
  cases c
  · exact hf.zero
  · rfl
theorem BAdd.comp {k : Nat} {f : BitVec m → BitVec k} {g : BitVec n → BitVec m} (hf : BAdd f) (hg : BAdd g) : BAdd (fun a => f (g a)) := fun a b => by show f (g (a ^^^ b)) = f (g a) ^^^ f (g b); rw [hg, hf]
theorem BAdd.xor {f g : BitVec n → BitVec m} (hf : BAdd f) (hg : BAdd g) : BAdd (fun a => f a ^^^ g a) := fun a b => by show f (a ^^^ b) ^^^ g (a ^^^ b) = f a ^^^ g a ^^^ (f b ^^^ g b); rw [hf, hg]; ac_rfl
theorem badd_id : BAdd (fun a : BitVec n => a) := fun a b => rfl
theorem badd_mul_left (r b : BitVec n) : BAdd (fun a => bmul r a b) := fun a a' => bmul_xor_left r a a' b
theorem badd_mul_right (r a : BitVec n) : BAdd (fun b => bmul r a b) := fun b b' => bmul_xor_right r a b b'
def be (n i : Nat) : BitVec n := 1#n <<< i
theorem bsum_get (f : Nat → BitVec n) (k : Nat) : ∀ m, (bsum f m).getLsbD k = (List.range m).foldl (fun b i => b ^^ (f i).getLsbD k) false
  | 0 => by simp [bsum]
  | m + 1 => by simp [bsum, bsum_get f k m, List.range_succ]
theorem foldl_xor_one (p : Nat → Bool) (k : Nat) : ∀ m b, (List.range m).foldl (fun b i => b ^^ (p i && decide (i = k))) b = (b ^^ (decide (k < m) && p k))
  | 0, b => by simp
  | m + 1, b => by
    rw [List.range_succ, List.foldl_append, foldl_xor_one p k m b]
    simp only [List.foldl_cons, List.foldl_nil]
    by_cases h : m = k
    · subst h; simp
    · have : (k < m + 1) ↔ k < m := by omega
      simp [h, this]
theorem bits_bsum (a : BitVec n) : a = bsum (fun i => sel (a.getLsbD i) (be n i)) n := by
  refine BitVec.eq_of_getLsbD_eq fun k hk => ?_
  rw [bsum_get]
  have h : ∀ i ∈ List.range n, ∀ b : Bool, (b ^^ (sel (a.getLsbD i) (be n i)).getLsbD k) = (b ^^ (a.getLsbD i && decide (i = k))) := by
    intro i hi b
    have hi' : i < n := List.mem_range.1 hi
    congr 1
    cases ha : a.getLsbD i
    · simp [sel]
    · simp only [sel, if_true, Bool.true_and, be]
      rw [BitVec.getLsbD_shiftLeft, BitVec.getLsbD_one]
      by_cases e : i = k
      · subst e; simp [hk]; omega
      · simp only [e, decide_false]
        by_cases h2 : k < i
        · simp [h2]
        · have : k - i ≠ 0 := by omega
          simp [this]
  have key : ∀ (l : List Nat) (b : Bool), (∀ i ∈ l, i ∈ List.range n) → l.foldl (fun b i => b ^^ (sel (a.getLsbD i) (be n i)).getLsbD k) b = l.foldl (fun b i => b ^^ (a.getLsbD i && decide (i = k))) b := by
    intro l
    induction l with
    | nil => intro b _; rfl
    | cons i l ih =>
      intro b hl
      rw [List.foldl_cons, List.foldl_cons, h i (hl i List.mem_cons_self), ih _ (fun j hj => hl j (List.mem_cons_of_mem _ hj))]
  rw [key _ _ (fun i h => h), foldl_xor_one]
  simp [hk]
/-- Two additive maps that agree on the powers of x are one. -/
theorem BAdd.ext {f g : BitVec n → BitVec m} (hf : BAdd f) (hg : BAdd g) (h : ∀ i, i < n → f (be n i) = g (be n i)) (a : BitVec n) : f a = g a := by
  rw [bits_bsum a, hf.sum, hg.sum]
  exact bsum_congr n fun i hi => by rw [hf.sel, hg.sel, h i hi]
theorem bmul_comm_of (r : BitVec n) (h : ∀ i, i < n → ∀ j, j < n → bmul r (be n i) (be n j) = bmul r (be n j) (be n i)) (a b : BitVec n) : bmul r a b = bmul r b a := by
  refine BAdd.ext (f := fun a => bmul r a b) (g := fun a => bmul r b a) (badd_mul_left r b) (badd_mul_right r b) (fun i hi => ?_) a
  exact BAdd.ext (f := fun b => bmul r (be n i) b) (g := fun b => bmul r b (be n i)) (badd_mul_right _ _) (badd_mul_left _ _) (fun j hj => h i hi j hj) b
theorem bmul_assoc_of (r : BitVec n) (h : ∀ i, i < n → ∀ j, j < n → ∀ k, k < n → bmul r (bmul r (be n i) (be n j)) (be n k) = bmul r (be n i) (bmul r (be n j) (be n k))) (a b c : BitVec n) : bmul r (bmul r a b) c = bmul r a (bmul r b c) := by
  refine BAdd.ext (f := fun a => bmul r (bmul r a b) c) (g := fun a => bmul r a (bmul r b c)) (BAdd.comp (badd_mul_left r c) (badd_mul_left r b)) (badd_mul_left r _) (fun i hi => ?_) a
  refine BAdd.ext (f := fun b => bmul r (bmul r (be n i) b) c) (g := fun b => bmul r (be n i) (bmul r b c)) (BAdd.comp (badd_mul_left r c) (badd_mul_right r _)) (BAdd.comp (badd_mul_right r _) (badd_mul_left r c)) (fun j hj => ?_) b
  exact BAdd.ext (f := fun c => bmul r (bmul r (be n i) (be n j)) c) (g := fun c => bmul r (be n i) (bmul r (be n j) c)) (badd_mul_right r _) (BAdd.comp (badd_mul_right r _) (badd_mul_right r _)) (fun k hk => h i hi j hj k hk) c
end

/-- Elements. -/
structure El (n : Nat) where
  v : BitVec n
  deriving DecidableEq
theorem El.ext {n : Nat} {a b : El n} (h : a.v = b.v) : a = b := by cases a; cases b; simp_all
/-- A field of 2^n elements. -/
class Fd (n : Nat) where
  r : BitVec n
  comm : ∀ a b : BitVec n, bmul r a b = bmul r b a
  assoc : ∀ a b c : BitVec n, bmul r (bmul r a b) c = bmul r a (bmul r b c)
  one : ∀ a : BitVec n, bmul r a 1 = a
  inv : BitVec n → BitVec n
  mul_inv : ∀ a : BitVec n, a ≠ 0 → bmul r a (inv a) = 1
  ne : (1 : BitVec n) ≠ 0
section
variable {n : Nat}
instance : Add (El n) := ⟨fun a b => ⟨a.v ^^^ b.v⟩⟩
instance : Zero (El n) := ⟨⟨0⟩⟩
instance : One (El n) := ⟨⟨1⟩⟩
instance : Inhabited (El n) := ⟨0⟩
theorem El.add_comm (a b : El n) : a + b = b + a := El.ext (BitVec.xor_comm _ _)
theorem El.add_assoc (a b c : El n) : a + b + c = a + (b + c) := El.ext (BitVec.xor_assoc _ _ _)
instance : Std.Commutative (α := El n) (· + ·) := ⟨El.add_comm⟩
instance : Std.Associative (α := El n) (· + ·) := ⟨El.add_assoc⟩
theorem El.add_self (a : El n) : a + a = 0 := El.ext BitVec.xor_self
theorem El.add_zero (a : El n) : a + 0 = a := El.ext BitVec.xor_zero
theorem El.zero_add (a : El n) : 0 + a = a := El.ext BitVec.zero_xor
variable [F : Fd n]
instance : Mul (El n) := ⟨fun a b => ⟨bmul F.r a.v b.v⟩⟩
def El.inv (a : El n) : El n := ⟨F.inv a.v⟩
theorem El.mul_comm (a b : El n) : a * b = b * a := El.ext (F.comm _ _)
theorem El.mul_assoc (a b c : El n) : a * b * c = a * (b * c) := El.ext (F.assoc _ _ _)
instance : Std.Commutative (α := El n) (· * ·) := ⟨El.mul_comm⟩
instance : Std.Associative (α := El n) (· * ·) := ⟨El.mul_assoc⟩
theorem El.mul_one (a : El n) : a * 1 = a := El.ext (F.one _)
theorem El.one_mul (a : El n) : 1 * a = a := by rw [El.mul_comm, El.mul_one]
theorem El.add_mul (a b c : El n) : (a + b) * c = a * c + b * c := El.ext (bmul_xor_left _ _ _ _)
theorem El.mul_add (a b c : El n) : a * (b + c) = a * b + a * c := El.ext (bmul_xor_right _ _ _ _)
theorem El.zero_mul (a : El n) : 0 * a = 0 := by
  have h := El.add_mul 0 0 a
  rw [El.add_self, El.add_self] at h
  exact h
theorem El.mul_zero (a : El n) : a * 0 = 0 := by rw [El.mul_comm, El.zero_mul]
theorem El.mul_inv (a : El n) (h : a ≠ 0) : a * a.inv = 1 := El.ext (F.mul_inv a.v (fun e => h (El.ext e)))
theorem El.mul_eq_zero {a b : El n} : a * b = 0 ↔ a = 0 ∨ b = 0 := by
  constructor
  · intro h
    by_cases ha : a = 0
    · exact Or.inl ha
    · right
      have : a.inv * (a * b) = b := by rw [← El.mul_assoc, El.mul_comm a.inv a, El.mul_inv a ha, El.one_mul]
      rw [h, El.mul_zero] at this
      exact this.symm
  · rintro (rfl | rfl)
    · exact El.zero_mul b
    · exact El.mul_zero a
end
end Go.Fw
