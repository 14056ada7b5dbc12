set_option linter.all false
/- The two fields, of 2^8 and of 2^16 elements: bits and their products. Plain maths. -/
set_option linter.unusedVariables false
namespace Go.Fw

/-- Sum (by xor) of the first m. -/
def bsum {n : Nat} (f : Nat → BitVec n) : Nat → BitVec n
  | 0 => 0
  | m + 1 => bsum f m ^^^ f m
theorem bsum_congr {n : Nat} {f g : Nat → BitVec n} : ∀ m, (∀ i, i < m → f i = g i) → bsum f m = bsum g m
  | 0, _ => rfl
  | m + 1, h => by simp only [bsum, bsum_congr m (fun i hi => h i (by omega)), h m (by omega)]
theorem bsum_xor {n : Nat} (f g : Nat → BitVec n) : ∀ m, bsum (fun i => f i ^^^ g i) m = bsum f m ^^^ bsum g m
  | 0 => by simp [bsum]
  | m + 1 => by simp only [bsum, bsum_xor f g m]; ac_rfl
def sel {n : Nat} (c : Bool) (a : BitVec n) : BitVec n := if c then a else 0
theorem sel_xor {n : Nat} (c : Bool) (a b : BitVec n) : sel c (a ^^^ b) = sel c a ^^^ sel c b := by cases c <;> simp [sel]
theorem sel_bxor {n : Nat} (c d : Bool) (a : BitVec n) : sel (c ^^ d) a = sel c a ^^^ sel d a := by cases c <;> cases d <;> simp [sel]
section
variable {n : Nat} (r : BitVec n)
/-- times x, modulo x^n + r. -/
def mx (a : BitVec n) : BitVec n := if a.msb then (a <<< 1) ^^^ r else a <<< 1
theorem mx_xor (a b : BitVec n) : mx r (a ^^^ b) = mx r a ^^^ mx r b := by
  unfold mx
  rw [BitVec.msb_xor, BitVec.shiftLeft_xor_distrib]
  generalize a <<< 1 = x
  generalize b <<< 1 = y
  cases a.msb <;> cases b.msb
  · rfl
  · show x ^^^ y ^^^ r = x ^^^ (y ^^^ r); ac_rfl
  · show x ^^^ y ^^^ r = x ^^^ r ^^^ y; ac_rfl
  · show x ^^^ y = x ^^^ r ^^^ (y ^^^ r)
    rw [show x ^^^ r ^^^ (y ^^^ r) = x ^^^ y ^^^ (r ^^^ r) by ac_rfl, BitVec.xor_self, BitVec.xor_zero]
theorem mx_zero : mx r 0 = 0 := by
  have h := mx_xor r 0 0
  rw [BitVec.xor_self] at h
  rw [BitVec.xor_self] at h
  exact h
/-- a times x^i -/
def pw (a : BitVec n) : Nat → BitVec n
  | 0 => a
  | i + 1 => mx r (pw a i)
theorem pw_xor (a b : BitVec n) : ∀ i, pw r (a ^^^ b) i = pw r a i ^^^ pw r b i
  | 0 => rfl
  | i + 1 => by simp only [pw, pw_xor a b i, mx_xor]
theorem pw_zero : ∀ i, pw r 0 i = 0
  | 0 => rfl
  | i + 1 => by simp only [pw, pw_zero i, mx_zero]
theorem pw_mx (a : BitVec n) : ∀ m, pw r (mx r a) m = pw r a (m + 1)
  | 0 => rfl
  | m + 1 => by show mx r (pw r (mx r a) m) = mx r (pw r a (m + 1)); rw [pw_mx a m]
theorem pw_sel (c : Bool) (a : BitVec n) (m : Nat) : pw r (sel c a) m = sel c (pw r a m) := by
  cases c
  · exact pw_zero r m
  · rfl
theorem pw_add (a : BitVec n) (i : Nat) : ∀ j, pw r (pw r a i) j = pw r a (i + j)
  | 0 => rfl
  | j + 1 => by show mx r (pw r (pw r a i) j) = mx r (pw r a (i + j)); rw [pw_add a i j]
def bmul (a b : BitVec n) : BitVec n := bsum (fun i => sel (b.getLsbD i) (pw r a i)) n
theorem bmul_xor_left (a a' b : BitVec n) : bmul r (a ^^^ a') b = bmul r a b ^^^ bmul r a' b := by
  unfold bmul
  rw [← bsum_xor]
  exact bsum_congr n fun i _ => by rw [pw_xor, sel_xor]
theorem bmul_xor_right (a b b' : BitVec n) : bmul r a (b ^^^ b') = bmul r a b ^^^ bmul r a b' := by
  unfold bmul
  rw [← bsum_xor]
  exact bsum_congr n fun i _ => by rw [BitVec.getLsbD_xor, sel_bxor]
/-- Horner's way, from the top bit. -/
def horner (a b : BitVec n) : Nat → BitVec n → BitVec n
  | 0, s => s
  | m + 1, s => horner a b m (mx r s ^^^ sel (b.getLsbD m) a)
theorem horner_eq (a b : BitVec n) : ∀ m s, horner r a b m s = pw r s m ^^^ bsum (fun i => sel (b.getLsbD i) (pw r a i)) m
  | 0, s => by simp [horner, pw, bsum]
  | m + 1, s => by
    simp only [horner, horner_eq a b m, bsum, pw_xor, pw_mx, pw_sel]
    ac_rfl
theorem horner_mul (a b : BitVec n) : horner r a b n 0 = bmul r a b := by rw [horner_eq, pw_zero]; exact BitVec.zero_xor
end

/-- An additive map. -/
def BAdd {n m : Nat} (f : BitVec n → BitVec m) : Prop := ∀ a b, f (a ^^^ b) = f a ^^^ f b
section
variable {n m : Nat}
theorem BAdd.zero {f : BitVec n → BitVec m} (h : BAdd f) : f 0 = 0 := by
  have := h 0 0
  rw [BitVec.xor_self] at this
  rw [BitVec.xor_self] at this
  exact this
theorem BAdd.sum {f : BitVec n → BitVec m} (hf : BAdd f) (g : Nat → BitVec n) : ∀ k, f (bsum g k) = bsum (fun i => f (g i)) k
  | 0 => hf.zero
  | k + 1 => by show f (bsum g k ^^^ g k) = bsum (fun i => f (g i)) k ^^^ f (g k); rw [hf, BAdd.sum hf g k]
theorem BAdd.sel {f : BitVec n → BitVec m} (hf : BAdd f) (c : Bool) (a : BitVec n) : f (Fw.sel c a) = Fw.sel c (f a) := by
  cases c
  · exact hf.zero
  · rfl
theorem BAdd.comp {k : Nat} {f : BitVec m → BitVec k} {g : BitVec n → BitVec m} (hf : BAdd f) (hg : BAdd g) : BAdd (fun a => f (g a)) := fun a b => by show f (g (a ^^^ b)) = f (g a) ^^^ f (g b); rw [hg, hf]
theorem BAdd.xor {f g : BitVec n → BitVec m} (hf : BAdd f) (hg : BAdd g) : BAdd (fun a => f a ^^^ g a) := fun a b => by show f (a ^^^ b) ^^^ g (a ^^^ b) = f a ^^^ g a ^^^ (f b ^^^ g b); rw [hf, hg]; ac_rfl
theorem badd_id : BAdd (fun a : BitVec n => a) := fun a b => rfl
theorem badd_mul_left (r b : BitVec n) : BAdd (fun a => bmul r a b) := fun a a' => bmul_xor_left r a a' b
theorem badd_mul_right (r a : BitVec n) : BAdd (fun b => bmul r a b) := fun b b' => bmul_xor_right r a b b'
def be (n i : Nat) : BitVec n := 1#n <<< i
theorem bsum_get (f : Nat → BitVec n) (k : Nat) : ∀ m, (bsum f m).getLsbD k = (List.range m).foldl (fun b i => b ^^ (f i).getLsbD k) false
  | 0 => by simp [bsum]
  | m + 1 => by simp [bsum, bsum_get f k m, List.range_succ]
theorem foldl_xor_one (p : Nat → Bool) (k : Nat) : ∀ m b, (List.range m).foldl (fun b i => b ^^ (p i && decide (i = k))) b = (b ^^ (decide (k < m) && p k))
  | 0, b => by simp
  | m + 1, b => by
    rw [List.range_succ, List.foldl_append, foldl_xor_one p k m b]
    simp only [List.foldl_cons, List.foldl_nil]
    by_cases h : m = k
    · subst h; simp
    · have : (k < m + 1) ↔ k < m := by omega
      simp [h, this]
theorem bits_bsum (a : BitVec n) : a = bsum (fun i => sel (a.getLsbD i) (be n i)) n := by
  refine BitVec.eq_of_getLsbD_eq fun k hk => ?_
  rw [bsum_get]
  have h : ∀ i ∈ List.range n, ∀ b : Bool, (b ^^ (sel (a.getLsbD i) (be n i)).getLsbD k) = (b ^^ (a.getLsbD i && decide (i = k))) := by
    intro i hi b
    have hi' : i < n := List.mem_range.1 hi
    congr 1
    cases ha : a.getLsbD i
    · simp [sel]
    · simp only [sel, if_true, Bool.true_and, be]
      rw [BitVec.getLsbD_shiftLeft, BitVec.getLsbD_one]
      by_cases e : i = k
      · subst e; simp [hk]; omega
      · simp only [e, decide_false]
        by_cases h2 : k < i
        · simp [h2]
        · have : k - i ≠ 0 := by omega
          simp [this]
  have key : ∀ (l : List Nat) (b : Bool), (∀ i ∈ l, i ∈ List.range n) → l.foldl (fun b i => b ^^ (sel (a.getLsbD i) (be n i)).getLsbD k) b = l.foldl (fun b i => b ^^ (a.getLsbD i && decide (i = k))) b := by
    intro l
    induction l with
    | nil => intro b _; rfl
    | cons i l ih =>
      intro b hl
      rw [List.foldl_cons, List.foldl_cons, h i (hl i List.mem_cons_self), ih _ (fun j hj => hl j (List.mem_cons_of_mem _ hj))]
  rw [key _ _ (fun i h => h), foldl_xor_one]
  simp [hk]
/-- Two additive maps that agree on the powers of x are one. -/
theorem BAdd.ext {f g : BitVec n → BitVec m} (hf : BAdd f) (hg : BAdd g) (h : ∀ i, i < n → f (be n i) = g (be n i)) (a : BitVec n) : f a = g a := by
  rw [bits_bsum a, hf.sum, hg.sum]
  exact bsum_congr n fun i hi => by rw [hf.sel, hg.sel, h i hi]
theorem bmul_comm_of (r : BitVec n) (h : ∀ i, i < n → ∀ j, j < n → bmul r (be n i) (be n j) = bmul r (be n j) (be n i)) (a b : BitVec n) : bmul r a b = bmul r b a := by
  refine BAdd.ext (f := fun a => bmul r a b) (g := fun a => bmul r b a) (badd_mul_left r b) (badd_mul_right r b) (fun i hi => ?_) a
  exact BAdd.ext (f := fun b => bmul r (be n i) b) (g := fun b => bmul r b (be n i)) (badd_mul_right _ _) (badd_mul_left _ _) (fun j hj => h i hi j hj) b
theorem bmul_assoc_of (r : BitVec n) (h : ∀ i, i < n → ∀ j, j < n → ∀ k, k < n → bmul r (bmul r (be n i) (be n j)) (be n k) = bmul r (be n i) (bmul r (be n j) (be n k))) (a b c : BitVec n) : bmul r (bmul r a b) c = bmul r a (bmul r b c) := by
  refine BAdd.ext (f := fun a => bmul r (bmul r a b) c) (g := fun a => bmul r a (bmul r b c)) (BAdd.comp (badd_mul_left r c) (badd_mul_left r b)) (badd_mul_left r _) (fun i hi => ?_) a
  refine BAdd.ext (f := fun b => bmul r (bmul r (be n i) b) c) (g := fun b => bmul r (be n i) (bmul r b c)) (BAdd.comp (badd_mul_left r c) (badd_mul_right r _)) (BAdd.comp (badd_mul_right r _) (badd_mul_left r c)) (fun j hj => ?_) b
  exact BAdd.ext (f := fun c => bmul r (bmul r (be n i) (be n j)) c) (g := fun c => bmul r (be n i) (bmul r (be n j) c)) (badd_mul_right r _) (BAdd.comp (badd_mul_right r _) (badd_mul_right r _)) (fun k hk => h i hi j hj k hk) c
end

/-- Elements. -/
structure El (n : Nat) where
  v : BitVec n
  deriving DecidableEq
theorem El.ext {n : Nat} {a b : El n} (h : a.v = b.v) : a = b := by cases a; cases b; simp_all
/-- A field of 2^n elements. -/
class Fd (n : Nat) where
  r : BitVec n
  comm : ∀ a b : BitVec n, bmul r a b = bmul r b a
  assoc : ∀ a b c : BitVec n, bmul r (bmul r a b) c = bmul r a (bmul r b c)
  one : ∀ a : BitVec n, bmul r a 1 = a
  inv : BitVec n → BitVec n
  mul_inv : ∀ a : BitVec n, a ≠ 0 → bmul r a (inv a) = 1
  ne : (1 : BitVec n) ≠ 0
section
variable {n : Nat}
instance : Add (El n) := ⟨fun a b => ⟨a.v ^^^ b.v⟩⟩
instance : Zero (El n) := ⟨⟨0⟩⟩
instance : One (El n) := ⟨⟨1⟩⟩
instance : Inhabited (El n) := ⟨0⟩
theorem El.add_v (a b : El n) : (a + b).v = a.v ^^^ b.v := rfl
theorem El.add_comm (a b : El n) : a + b = b + a := El.ext (BitVec.xor_comm _ _)
theorem El.add_assoc (a b c : El n) : a + b + c = a + (b + c) := El.ext (BitVec.xor_assoc _ _ _)
instance : Std.Commutative (α := El n) (· + ·) := ⟨El.add_comm⟩
instance : Std.Associative (α := El n) (· + ·) := ⟨El.add_assoc⟩
theorem El.add_self (a : El n) : a + a = 0 := El.ext BitVec.xor_self
theorem El.add_zero (a : El n) : a + 0 = a := El.ext BitVec.xor_zero
theorem El.zero_add (a : El n) : 0 + a = a := El.ext BitVec.zero_xor
theorem El.add_cancel (a b : El n) : a + b + b = a := by rw [El.add_assoc, El.add_self, El.add_zero]
theorem El.eq_of_add {a b : El n} (h : a + b = 0) : a = b := by
  have := El.add_cancel a b
  rw [h, El.zero_add] at this
  exact this.symm
theorem El.add_eq_zero {a b : El n} : a + b = 0 ↔ a = b := ⟨El.eq_of_add, fun h => by rw [h, El.add_self]⟩
variable [F : Fd n]
instance : Mul (El n) := ⟨fun a b => ⟨bmul F.r a.v b.v⟩⟩
def El.inv (a : El n) : El n := ⟨F.inv a.v⟩
theorem El.mul_v (a b : El n) : (a * b).v = bmul F.r a.v b.v := rfl
theorem El.mul_comm (a b : El n) : a * b = b * a := El.ext (F.comm _ _)
theorem El.mul_assoc (a b c : El n) : a * b * c = a * (b * c) := El.ext (F.assoc _ _ _)
instance : Std.Commutative (α := El n) (· * ·) := ⟨El.mul_comm⟩
instance : Std.Associative (α := El n) (· * ·) := ⟨El.mul_assoc⟩
theorem El.mul_one (a : El n) : a * 1 = a := El.ext (F.one _)
theorem El.one_mul (a : El n) : 1 * a = a := by rw [El.mul_comm, El.mul_one]
theorem El.add_mul (a b c : El n) : (a + b) * c = a * c + b * c := El.ext (bmul_xor_left _ _ _ _)
theorem El.mul_add (a b c : El n) : a * (b + c) = a * b + a * c := El.ext (bmul_xor_right _ _ _ _)
theorem El.zero_mul (a : El n) : 0 * a = 0 := by
  have h := El.add_mul 0 0 a
  rw [El.add_self, El.add_self] at h
  exact h
theorem El.mul_zero (a : El n) : a * 0 = 0 := by rw [El.mul_comm, El.zero_mul]
theorem El.mul_inv (a : El n) (h : a ≠ 0) : a * a.inv = 1 := El.ext (F.mul_inv a.v (fun e => h (El.ext e)))
theorem El.one_ne : (1 : El n) ≠ 0 := fun e => F.ne (congrArg El.v e)
theorem El.mul_eq_zero {a b : El n} : a * b = 0 ↔ a = 0 ∨ b = 0 := by
  constructor
  · intro h
    by_cases ha : a = 0
    · exact Or.inl ha
    · right
      have : a.inv * (a * b) = b := by rw [← El.mul_assoc, El.mul_comm a.inv a, El.mul_inv a ha, El.one_mul]
      rw [h, El.mul_zero] at this
      exact this.symm
  · rintro (rfl | rfl)
    · exact El.zero_mul b
    · exact El.mul_zero a
end
end Go.Fw

/- The fields of 256 and of 65536 elements; the Cantor basis. Plain maths. -/
set_option linter.unusedVariables false
namespace Go.Fw

section
variable {n : Nat} (r : BitVec n)
def bsq (a : BitVec n) : BitVec n := bmul r a a
def bsqn (a : BitVec n) : Nat → BitVec n
  | 0 => a
  | k + 1 => bsq r (bsqn a k)
/-- a^(2^m - 1) -/
def bpr (a : BitVec n) : Nat → BitVec n
  | 0 => 1
  | k + 1 => bmul r (bpr a k) (bsqn r a k)
/-- a^(2^m - 2) -/
def bin (a : BitVec n) : Nat → BitVec n
  | 0 => 1
  | k + 1 => bmul r (bin a k) (bsqn r a (k + 1))
variable {r} (hc : ∀ a b, bmul r a b = bmul r b a) (ha : ∀ a b c, bmul r (bmul r a b) c = bmul r a (bmul r b c)) (h1 : ∀ a, bmul r a 1 = a)
include hc
theorem badd_sq : BAdd (bsq r) := fun a b => by
  unfold bsq
  rw [bmul_xor_left, bmul_xor_right, bmul_xor_right, hc b a]
  have : bmul r a b ^^^ bmul r a b = 0 := BitVec.xor_self
  calc bmul r a a ^^^ bmul r a b ^^^ (bmul r a b ^^^ bmul r b b) = bmul r a a ^^^ (bmul r a b ^^^ bmul r a b) ^^^ bmul r b b := by ac_rfl
    _ = bmul r a a ^^^ bmul r b b := by rw [this]; exact congrArg (· ^^^ bmul r b b) BitVec.xor_zero
theorem badd_sqn : ∀ k, BAdd (fun a => bsqn r a k)
  | 0 => fun _ _ => rfl
  | k + 1 => BAdd.comp (badd_sq hc) (badd_sqn k)
omit hc
include ha h1 in
theorem bpr_a (hc : ∀ a b, bmul r a b = bmul r b a) (a : BitVec n) : ∀ m, bmul r a (bpr r a m) = bsqn r a m
  | 0 => h1 a
  | m + 1 => by show bmul r a (bmul r (bpr r a m) (bsqn r a m)) = bmul r (bsqn r a m) (bsqn r a m); rw [← ha, bpr_a hc a m]
include ha h1 hc in
theorem bpr_bin (a : BitVec n) : ∀ m, bpr r a (m + 1) = bmul r a (bin r a m)
  | 0 => by
    show bmul r 1 a = bmul r a 1
    rw [hc]
  | m + 1 => by
    show bmul r (bpr r a (m + 1)) (bsqn r a (m + 1)) = bmul r a (bmul r (bin r a m) (bsqn r a (m + 1)))
    rw [bpr_bin a m, ha]
include ha hc h1 in
theorem bsq_bpr (a : BitVec n) : ∀ m, bsq r (bpr r a m) = bin r a m
  | 0 => h1 1
  | m + 1 => by
    show bmul r (bmul r (bpr r a m) (bsqn r a m)) (bmul r (bpr r a m) (bsqn r a m)) = bmul r (bin r a m) (bsqn r a (m + 1))
    rw [← bsq_bpr a m]
    show _ = bmul r (bmul r (bpr r a m) (bpr r a m)) (bmul r (bsqn r a m) (bsqn r a m))
    generalize bpr r a m = x
    generalize bsqn r a m = y
    rw [ha, ha, ← ha y x y, hc y x, ha]
include ha hc h1 in
/-- Where squaring n times changes nothing, and only 0 and 1 are their own squares, each element but 0 has an inverse. -/
theorem binv_of (m : Nat) (hn : ∀ a, bsqn r a (m + 1) = a) (hid : ∀ u, bsq r u = u → u = 0 ∨ u = 1) (a : BitVec n) (h : a ≠ 0) : bmul r a (bin r a m) = 1 := by
  rw [← bpr_bin hc ha h1]
  have hu : bsq r (bpr r a (m + 1)) = bpr r a (m + 1) := by
    rw [bsq_bpr hc ha h1, bpr_bin hc ha h1]
    show bmul r (bin r a m) (bsqn r a (m + 1)) = bmul r a (bin r a m)
    rw [hn, hc]
  rcases hid _ hu with h0 | h0
  · exfalso
    apply h
    have := bpr_a ha h1 hc a (m + 1)
    rw [h0, hn] at this
    rw [← this]
    exact (badd_mul_right r a).zero
  · exact h0
end

/-! The field of 65536. -/
def r16 : BitVec 16 := 0x2d#16
theorem c16 : ∀ a b : BitVec 16, bmul r16 a b = bmul r16 b a := bmul_comm_of r16 (by decide +kernel)
theorem a16 : ∀ a b c : BitVec 16, bmul r16 (bmul r16 a b) c = bmul r16 a (bmul r16 b c) := bmul_assoc_of r16 (by decide +kernel)
theorem o16 : ∀ a : BitVec 16, bmul r16 a 1 = a := BAdd.ext (f := fun a => bmul r16 a 1) (badd_mul_left r16 1) badd_id (by decide +kernel)
/-- The Cantor basis, and the indices of 1, 2, 4, .. -/
def cbs : List (BitVec 16) := [0x0001, 0xacca, 0x3c0e, 0x163e, 0xc582, 0xed2e, 0x914c, 0x4012, 0x6c98, 0x10d8, 0x6a72, 0xb900, 0xfdb8, 0xfb34, 0xff38, 0x991e]
def cis : List (BitVec 16) := [0x0001, 0x4690, 0x65d8, 0x62d0, 0x5734, 0x45f0, 0x53b8, 0x1e38, 0x7cae, 0x4e38, 0x6708, 0xc25c, 0x7a64, 0x9eac, 0x1124, 0x523a]
/-- w(i) -/
def bw (i : BitVec 16) : BitVec 16 := bsum (fun t => sel (i.getLsbD t) (cbs.getD t 0)) 16
def bix (a : BitVec 16) : BitVec 16 := bsum (fun t => sel (a.getLsbD t) (cis.getD t 0)) 16
theorem badd_lin {n : Nat} (f : Nat → BitVec n) (m : Nat) : BAdd (fun a : BitVec n => bsum (fun t => sel (a.getLsbD t) (f t)) m) := fun a b => by
  show bsum _ m = bsum _ m ^^^ bsum _ m
  rw [← bsum_xor]
  exact bsum_congr m fun i _ => by rw [BitVec.getLsbD_xor, sel_bxor]
theorem badd_w : BAdd bw := badd_lin _ 16
theorem badd_ix : BAdd bix := badd_lin _ 16
theorem bix_w (i : BitVec 16) : bix (bw i) = i := BAdd.ext (f := fun i => bix (bw i)) (BAdd.comp badd_ix badd_w) badd_id (by decide +kernel) i
theorem bw_ix (a : BitVec 16) : bw (bix a) = a := BAdd.ext (f := fun a => bw (bix a)) (BAdd.comp badd_w badd_ix) badd_id (by decide +kernel) a
theorem badd_shr (n k : Nat) : BAdd (fun a : BitVec n => a >>> k) := fun a b => by exact BitVec.ushiftRight_xor_distrib a b k
theorem bs1_w (i : BitVec 16) : bsq r16 (bw i) ^^^ bw i = bw (i >>> 1) :=
  BAdd.ext (f := fun i => bsq r16 (bw i) ^^^ bw i) (g := fun i => bw (i >>> 1)) (BAdd.xor (BAdd.comp (badd_sq c16) badd_w) badd_w) (BAdd.comp badd_w (badd_shr 16 1)) (by decide +kernel) i
theorem bsqn16 (a : BitVec 16) : bsqn r16 a 16 = a := BAdd.ext (f := fun a => bsqn r16 a 16) (badd_sqn c16 16) badd_id (by decide +kernel) a
theorem bid16 (u : BitVec 16) (h : bsq r16 u = u) : u = 0 ∨ u = 1 := by
  have h1 := bs1_w (bix u)
  rw [bw_ix, h, BitVec.xor_self] at h1
  have h2 : bix u >>> 1 = 0 := by rw [← bix_w (bix u >>> 1), ← h1]; exact badd_ix.zero
  have h3 : bix u = 0 ∨ bix u = 1 := by
    generalize bix u = j at h2
    have : j.toNat / 2 = 0 := by
      have := congrArg BitVec.toNat h2
      simpa [BitVec.toNat_ushiftRight, Nat.shiftRight_eq_div_pow] using this
    have hj : j.toNat = 0 ∨ j.toNat = 1 := by omega
    rcases hj with hj | hj
    · left; exact BitVec.eq_of_toNat_eq (by simpa using hj)
    · right; exact BitVec.eq_of_toNat_eq (by simpa using hj)
  rcases h3 with h3 | h3
  · left; rw [← bw_ix u, h3]; exact badd_w.zero
  · right; rw [← bw_ix u, h3]; decide +kernel
instance F16 : Fd 16 := ⟨r16, c16, a16, o16, fun a => bin r16 a 15, binv_of c16 a16 o16 15 bsqn16 bid16, by decide⟩

/-! The field of 256. -/
def r8 : BitVec 8 := 0x1d#8
theorem c8 : ∀ a b : BitVec 8, bmul r8 a b = bmul r8 b a := bmul_comm_of r8 (by decide +kernel)
theorem a8 : ∀ a b c : BitVec 8, bmul r8 (bmul r8 a b) c = bmul r8 a (bmul r8 b c) := bmul_assoc_of r8 (by decide +kernel)
theorem o8 : ∀ a : BitVec 8, bmul r8 a 1 = a := BAdd.ext (f := fun a => bmul r8 a 1) (badd_mul_left r8 1) badd_id (by decide +kernel)
theorem bsqn8 (a : BitVec 8) : bsqn r8 a 8 = a := BAdd.ext (f := fun a => bsqn r8 a 8) (badd_sqn c8 8) badd_id (by decide +kernel) a
theorem bid8 (u : BitVec 8) (h : bsq r8 u = u) : u = 0 ∨ u = 1 := by
  have key : ∀ q : Fin 256, bsq r8 (BitVec.ofFin q) = BitVec.ofFin q → q = 0 ∨ q = 1 := by decide +kernel
  rcases key u.toFin h with e | e
  · left; exact BitVec.eq_of_toFin_eq e
  · right; exact BitVec.eq_of_toFin_eq e
instance F8 : Fd 8 := ⟨r8, c8, a8, o8, fun a => bin r8 a 7, binv_of c8 a8 o8 7 bsqn8 bid8, by decide⟩
end Go.Fw
