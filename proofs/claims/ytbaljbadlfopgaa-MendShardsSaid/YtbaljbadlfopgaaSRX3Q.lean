import Derived.Test.YtbaljbadlfopgaaProg
import Derived.Test.YtbaljbadlfopgaaFwTQ
import Derived.Test.YtbaljbadlfopgaaSMrfQ
import Derived.Test.YtbaljbadlfopgaaSMlawQ
import Derived.Test.YtbaljbadlfopgaaFwStQ
set_option linter.all false
set_option linter.unusedVariables false
set_option linter.unusedSimpArgs false
set_option maxRecDepth 100000
set_option maxHeartbeats 1000000
namespace Go.Proofs.Ytbaljbadlfopgaa.Fw
open Go Go.Fw Go.Proofs
attribute [local irreducible] stepI
def c_culletref10_less : C := .seq (.seq (.ops [⟨0,some 7,none,.mov (.t 2),[]⟩,⟨1,some 8,none,.bin .eql (.t 7) (.c (.int .u8 0)),[]⟩]) (.ite (.t 8) .ret .skip)) (.seq (.ops [⟨0,some 6,none,.mov (.c (.int .i64 0)),[]⟩]) (.block 0 (.loop (.seq (.seq (.ops [⟨0,some 9,none,.mov (.t 6),[]⟩,⟨1,some 10,none,.mov (.t 0),[]⟩,⟨2,some 11,none,.len (.t 10),[]⟩,⟨3,some 12,none,.bin .lss (.t 9) (.t 11),[]⟩]) (.ite (.t 12) .skip (.exit 0))) (.seq (.block 1 (.dops [⟨0,some 15,none,.mov (.t 0),[]⟩,⟨1,some 16,none,.mov (.t 6),[]⟩,⟨2,some 17,none,.mov (.t 0),[]⟩,⟨3,some 18,none,.mov (.t 6),[]⟩,⟨4,some 19,none,.ixs 1 (.t 17) (.t 18),[]⟩,⟨5,some 20,none,.ld (.t 19),[]⟩,⟨6,some 21,none,.mov (.t 2),[]⟩,⟨7,some 22,none,.mov (.t 1),[]⟩,⟨8,some 23,none,.mov (.t 6),[]⟩,⟨9,some 24,none,.ixs 1 (.t 22) (.t 23),[]⟩,⟨10,some 25,none,.ld (.t 24),[]⟩,⟨11,some 26,none,.call (.c (.func (.func 100) #[] #[])) [.t 21,.t 25],[5]⟩,⟨12,some 27,none,.bin .xor (.t 20) (.t 26),[]⟩,⟨13,some 28,none,.ixs 1 (.t 15) (.t 16),[]⟩,⟨14,none,none,.st (.t 28) (.t 27),[]⟩])) (.ops [⟨0,some 13,none,.mov (.t 6),[]⟩,⟨1,some 14,none,.bin .add (.t 13) (.c (.int .i64 1)),[]⟩,⟨2,some 6,none,.mov (.t 14),[]⟩]))))))
attribute [irreducible] c_culletref10_less
theorem run_culletref10_less {args : List Value} {w : World} {K : Value → World → Prop} (hn : args.length ≤ 29) (h : WP Try.prog c_culletref10_less (endQ [] K) (initT args) w) : CallV Try.prog 159 args w K :=
  call_of follows Try.func159 (by kernel_rfl) (by kernel_rfl) hn h
end Go.Proofs.Ytbaljbadlfopgaa.Fw
namespace Go.Proofs.Ytbaljbadlfopgaa.Fw
open Go Go.Fw
/-- c times b is taken off l. -/
def lesL (l lb : List (El 8)) (c : El 8) : List (El 8) := (List.range l.length).map fun i => nth l i + c * nth lb i
theorem lesL_len (l lb : List (El 8)) (c : El 8) : (lesL l lb c).length = l.length := by unfold lesL; rw [List.length_map, List.length_range]
theorem lesL_nth {l lb : List (El 8)} {c : El 8} {i : Nat} (h : i < l.length) : nth (lesL l lb c) i = nth l i + c * nth lb i := by
  rw [nth_get (by rw [lesL_len]; exact h)]
  have h2 : i < ((List.range l.length).map fun i => nth l i + c * nth lb i).length := by rw [List.length_map, List.length_range]; exact h
  have : ((List.range l.length).map fun i => nth l i + c * nth lb i)[i] = nth l i + c * nth lb i := by rw [List.getElem_map, List.getElem_range]
  exact this
theorem nth_ext {l m : List (El 8)} (hl : l.length = m.length) (h : ∀ i, i < l.length → nth l i = nth m i) : l = m := List.ext_getElem hl fun i h1 h2 => by
  have := h i h1
  rwa [nth_get h1, nth_get h2] at this
theorem lesL_zero (l lb : List (El 8)) : lesL l lb 0 = l := nth_ext (lesL_len ..) fun i hi => by
  rw [lesL_len] at hi
  rw [lesL_nth hi, El.zero_mul, El.add_zero]
theorem culletref10_less_spec (w : World) (B : Nat) (s sb : Value) (l lb : List (El 8)) (c : El 8) (bs : Nat) (h : Ow B w s l) (hbs : Fw.blk s = some bs) (hb : Sl w sb lb) (hne : Fw.blk sb ≠ some bs) (hlen : lb.length = l.length) (hl : l.length ≤ 1000) (hB : B ≤ w.heap.size) :
    CallV Try.prog 159 [s, sb, .int .u8 (c.v.toNat : Int)] w fun v w' => Ow B w' s (lesL l lb c) ∧ Kp w bs w' ∧ RowKit.Below B w w' := by
  have hbB : B ≤ bs := (h.blk bs hbs).1
  refine run_culletref10_less (by simp) ?_
  simp only [c_culletref10_less, WS, ↓reduceIte, Nat.reduceEqDiff, reduceCtorEq]
  by_cases hc : c = 0
  · have e0 : ((c.v.toNat : Nat) : Int) = 0 := by rw [hc]; rfl
    simp (maxSteps := 1000000) (disch := omega) only [WS, ↓reduceIte, Nat.reduceEqDiff, reduceCtorEq, AS, e0, show decide ((0 : Int) = 0) = true from rfl]
    rw [hc, lesL_zero]
    exact ⟨h, Kp.refl _ _, RowKit.Below.refl _ _⟩
  have e0 : ¬ ((c.v.toNat : Nat) : Int) = 0 := fun e => hc (El.ext (BitVec.eq_of_toNat_eq (by show c.v.toNat = 0; omega)))
  simp (maxSteps := 1000000) (disch := omega) only [WS, ↓reduceIte, Nat.reduceEqDiff, reduceCtorEq, AS, e0]
  refine loop_of (fun t w' => t 0 = s ∧ t 1 = sb ∧ t 2 = .int .u8 (c.v.toNat : Int) ∧ Kp w bs w' ∧ RowKit.Below B w w' ∧ ∃ (i : Nat) (M : List (El 8)), t 6 = .int .i64 (i : Int) ∧ i ≤ l.length ∧ M.length = l.length ∧ (∀ j, nth M j = if j < i then nth l j + c * nth lb j else nth l j) ∧ Ow B w' s M) (fun t _ => l.length - (toI (t 6)).toNat)
    ⟨by simp only [WS, ↓reduceIte, Nat.reduceEqDiff, reduceCtorEq], by simp only [WS, ↓reduceIte, Nat.reduceEqDiff, reduceCtorEq], by simp only [WS, ↓reduceIte, Nat.reduceEqDiff, reduceCtorEq], Kp.refl _ _, RowKit.Below.refl _ _, 0, l, by simp only [WS, ↓reduceIte, Nat.reduceEqDiff, reduceCtorEq]; rfl, by omega, rfl, fun j => by rw [if_neg (Nat.not_lt_zero _)], h⟩ ?_
  rintro t w1 ⟨t0, t1, t2, K, C, i, M, t6, hi, lM, hM, oM⟩
  have lMi : ((M.length : Nat) : Int) = (l.length : Int) := by rw [lM]
  by_cases hil : i < l.length
  rotate_left
  · obtain rfl : i = l.length := by omega
    simp (maxSteps := 1000000) (disch := omega) only [WS, ↓reduceIte, Nat.reduceEqDiff, reduceCtorEq, AS, t0, t1, t2, t6, oM.sl.Xlen, lMi]
    have : M = lesL l lb c := nth_ext (by rw [lesL_len, lM]) fun j hj => by rw [hM j, if_pos (by omega), lesL_nth (by omega)]
    rw [← this]
    exact ⟨oM, K, C⟩
  have z1 := K.1
  simp (maxSteps := 1000000) (disch := omega) only [WS, ↓reduceIte, Nat.reduceEqDiff, reduceCtorEq, AS, t0, t1, t2, t6, oM.sl.Xlen, lMi]
  refine WP_dops ?_
  have bd := bel_drew w1
  have K := K.up bd
  have C := C.trans (bd.mono (Nat.le_trans hB z1))
  have oM := oM.up bd
  clear bd
  have hb1 := K.sl hb fun x hx e => hne (by rw [hx, e])
  have iM : i < M.length := by omega
  have ib : i < lb.length := by omega
  have see : Fw.sees Try.prog (.ld (.c (elP s i))) w1.drew (.int .u8 (M[i].v.toNat : Int)) = True := oM.sl.sees iM Try.prog
  simp (maxSteps := 1000000) (disch := omega) only [ES, List.mem_cons, List.not_mem_nil, implies_true, forall_const, WS, ↓reduceIte, Nat.reduceEqDiff, reduceCtorEq, AS, t0, t1, t2, t6, oM.sl.Eix iM, oM.sl.Eld iM, hb1.Eix ib, hb1.Eld ib, cell_e8, see]
  refine E_call0 ((culletref02_Mul_spec w1.drew c lb[i]).mono ?_)
  rintro _ w2 ⟨rfl, rfl⟩
  simp (maxSteps := 1000000) (disch := omega) only [ES, List.mem_cons, List.not_mem_nil, implies_true, forall_const, WS, ↓reduceIte, Nat.reduceEqDiff, reduceCtorEq, AS, t0, t1, t2, t6, oM.sl.Eix iM, oM.sl.Eld iM, cell_e8, see, xor8]
  refine Ow.Est oM iM (M[i] + c * lb[i]) fun w3 oM2 hg => ?_
  have K := K.gr hg fun x hx => Or.inl (by rw [hbs] at hx; exact (Option.some.inj hx).symm)
  have C := C.grown hg (Nat.le_trans hB z1) fun x hx => by rw [hbs] at hx; cases hx; exact hbB
  simp (maxSteps := 1000000) (disch := omega) only [ES, List.mem_cons, List.not_mem_nil, implies_true, forall_const, WS, ↓reduceIte, Nat.reduceEqDiff, reduceCtorEq, AS, t0, t1, t2, t6]
  refine ⟨⟨K, C, i + 1, _, rfl, by omega, by rw [List.length_set]; exact lM, fun j => ?_, oM2⟩, by omega⟩
  rw [nth_set iM, hM j]
  by_cases e : j = i
  · subst e
    have := hM j
    rw [if_neg (by omega), nth_get iM] at this
    rw [if_pos rfl, if_pos (by omega), this, nth_get ib]
  · rw [if_neg e]
    by_cases e2 : j < i
    · rw [if_pos e2, if_pos (by omega)]
    · rw [if_neg e2, if_neg (by omega)]
end Go.Proofs.Ytbaljbadlfopgaa.Fw

/- Linear equations: the reduced form, its step, and what it tells about the solutions. -/
set_option linter.unusedVariables false
set_option linter.unusedSimpArgs false
set_option linter.unusedSectionVars false
namespace Go.Fw
open Go
section
variable {n : Nat} [F : Fd n]
theorem gsum_zero {f : Nat → El n} : ∀ {k : Nat}, (∀ i, i < k → f i = 0) → gsum k f = 0
  | 0, _ => rfl
  | k + 1, h => by show gsum k f + f k = 0; rw [gsum_zero fun i hi => h i (by omega), h k (by omega), El.add_zero]
theorem gsum_add (f g : Nat → El n) : ∀ k, gsum k (fun i => f i + g i) = gsum k f + gsum k g
  | 0 => (El.add_zero 0).symm
  | k + 1 => by
    show gsum k _ + (f k + g k) = (gsum k f + f k) + (gsum k g + g k)
    rw [gsum_add f g k, El.add_assoc, ← El.add_assoc (gsum k g), El.add_comm (gsum k g) (f k), El.add_assoc (f k), ← El.add_assoc]
theorem gsum_two {f : Nat → El n} {k a b : Nat} (ha : a < k) (hb : b < k) (hab : a ≠ b) (h : ∀ i, i < k → i ≠ a → i ≠ b → f i = 0) : gsum k f = f a + f b := by
  have e : gsum k f = gsum k (fun i => (if i = a then f a else 0) + (if i = b then f b else 0)) := gsum_congr fun i hi => by
    by_cases e1 : i = a
    · rw [if_pos e1, if_neg (fun e2 => hab (by omega)), El.add_zero, e1]
    · by_cases e2 : i = b
      · rw [if_neg e1, if_pos e2, El.zero_add, e2]
      · rw [if_neg e1, if_neg e2, El.add_zero, h i hi e1 e2]
  rw [e, gsum_add, gsum_one ha fun i hi hia => if_neg hia, gsum_one hb fun i hi hib => if_neg hib, if_pos rfl, if_pos rfl]
def dot (C : Nat) (r x : Nat → El n) : El n := gsum C fun c => r c * x c
theorem dot_add (C : Nat) (r s x : Nat → El n) (a : El n) : dot C (fun c => r c + a * s c) x = dot C r x + a * dot C s x := by
  unfold dot
  rw [← gsum_mul, ← gsum_add]
  exact gsum_congr fun c _ => by rw [El.add_mul, El.mul_assoc]
theorem dot_smul (C : Nat) (r x : Nat → El n) (a : El n) : dot C (fun c => a * r c) x = a * dot C r x := by
  unfold dot
  rw [← gsum_mul]
  exact gsum_congr fun c _ => by rw [El.mul_assoc]
theorem dot_congr {C : Nat} {r s x : Nat → El n} (h : ∀ c, c < C → r c = s c) : dot C r x = dot C s x := gsum_congr fun c hc => by rw [h c hc]
/-- The reduced form of the first r rows: m rows, each with a column in which it alone is not 0. -/
structure Red (A : Nat → Nat → El n) (r C : Nat) (R : Nat → Nat → El n) (p : Nat → Nat) (m : Nat) : Prop where
  pv : ∀ i, i < m → p i < C
  del : ∀ i j, i < m → j < m → R i (p j) = if i = j then 1 else 0
  sol : ∀ x, (∀ i, i < m → dot C (R i) x = 0) ↔ (∀ i, i < r → dot C (A i) x = 0)
variable {A R : Nat → Nat → El n} {r C m : Nat} {p : Nat → Nat}
theorem Red.zero : Red A 0 C R p 0 := ⟨fun i hi => absurd hi (Nat.not_lt_zero _), fun i j hi => absurd hi (Nat.not_lt_zero _), fun x => ⟨fun _ i hi => absurd hi (Nat.not_lt_zero _), fun _ i hi => absurd hi (Nat.not_lt_zero _)⟩⟩
theorem Red.inj (h : Red A r C R p m) {i j : Nat} (hi : i < m) (hj : j < m) (e : p i = p j) : i = j := by
  have h1 := h.del i j hi hj
  rw [← e, h.del i i hi hi, if_pos rfl] at h1
  by_cases e2 : i = j
  · exact e2
  · rw [if_neg e2] at h1; exact absurd h1 El.one_ne
theorem Red.congr {R' : Nat → Nat → El n} {p' : Nat → Nat} (h : Red A r C R p m) (hR : ∀ i, i < m → ∀ c, c < C → R' i c = R i c) (hp : ∀ i, i < m → p' i = p i) : Red A r C R' p' m :=
  ⟨fun i hi => by rw [hp i hi]; exact h.pv i hi, fun i j hi hj => by rw [hp j hj, hR i hi _ (h.pv j hj)]; exact h.del i j hi hj, fun x => by
    rw [← h.sol x]
    exact ⟨fun hx i hi => by rw [← dot_congr (hR i hi)]; exact hx i hi, fun hx i hi => by rw [dot_congr (hR i hi)]; exact hx i hi⟩⟩
/-- The next row, cleared by those that are there. -/
def clr (R : Nat → Nat → El n) (p : Nat → Nat) (a : Nat → El n) : Nat → Nat → El n
  | 0 => a
  | i + 1 => fun c => clr R p a i c + clr R p a i (p i) * R i c
theorem clr_pv (h : Red A r C R p m) (a : Nat → El n) : ∀ i, i ≤ m → (∀ j, j < i → clr R p a i (p j) = 0)
  | 0, _ => fun j hj => absurd hj (Nat.not_lt_zero _)
  | i + 1, hi => fun j hj => by
    show clr R p a i (p j) + clr R p a i (p i) * R i (p j) = 0
    rw [h.del i j (by omega) (by omega)]
    by_cases e : i = j
    · rw [if_pos e, El.mul_one, e, El.add_self]
    · rw [if_neg e, El.mul_zero, El.add_zero]
      exact clr_pv h a i (by omega) j (by omega)
theorem clr_dot {x : Nat → El n} (a : Nat → El n) (hx : ∀ i, i < m → dot C (R i) x = 0) : ∀ i, i ≤ m → dot C (clr R p a i) x = dot C a x
  | 0, _ => rfl
  | i + 1, hi => by
    show dot C (fun c => clr R p a i c + clr R p a i (p i) * R i c) x = _
    rw [dot_add, clr_dot a hx i (by omega), hx i (by omega), El.mul_zero, El.add_zero]
theorem Red.skip (h : Red A r C R p m) (hz : ∀ c, c < C → clr R p (A r) m c = 0) : Red A (r + 1) C R p m :=
  ⟨h.pv, h.del, fun x => by
    constructor
    · intro hx i hi
      by_cases e : i = r
      · rw [e, ← clr_dot (p := p) (A r) hx m (Nat.le_refl _)]
        exact gsum_zero fun c hc => by rw [hz c hc, El.zero_mul]
      · exact (h.sol x).1 hx i (by omega)
    · intro hx
      exact (h.sol x).2 fun i hi => hx i (by omega)⟩
theorem Red.next (h : Red A r C R p m) {q : Nat} (hq : q < C) {d : El n} (hd : d * clr R p (A r) m q = 1) :
    Red A (r + 1) C (fun i c => if i = m then d * clr R p (A r) m c else R i c + R i q * (d * clr R p (A r) m c)) (fun i => if i = m then q else p i) (m + 1) := by
  obtain ⟨v, hv⟩ : ∃ v : Nat → El n, v = fun c => d * clr R p (A r) m c := ⟨_, rfl⟩
  have vq : v q = 1 := by rw [hv]; exact hd
  have vp : ∀ j, j < m → v (p j) = 0 := fun j hj => by rw [hv]; show d * clr R p (A r) m (p j) = 0; rw [clr_pv h (A r) m (Nat.le_refl _) j hj, El.mul_zero]
  have hd0 : d ≠ 0 := fun e => by rw [e, El.zero_mul] at hd; exact El.one_ne hd.symm
  have vc : ∀ c, d * clr R p (A r) m c = v c := fun c => by rw [hv]
  simp only [vc]
  refine ⟨fun i hi => ?_, fun i j hi hj => ?_, fun x => ?_⟩
  · by_cases e : i = m
    · simp only [if_pos e]; exact hq
    · simp only [if_neg e]; exact h.pv i (by omega)
  · by_cases ei : i = m
    · by_cases ej : j = m
      · simp only [if_pos ei, if_pos ej]; rw [vq, if_pos (by omega)]
      · simp only [if_pos ei, if_neg ej]; rw [vp j (by omega), if_neg (by omega)]
    · by_cases ej : j = m
      · simp only [if_neg ei, if_pos ej]; rw [vq, El.mul_one, El.add_self, if_neg (by omega)]
      · simp only [if_neg ei, if_neg ej]; rw [vp j (by omega), El.mul_zero, El.add_zero]; exact h.del i j (by omega) (by omega)
  · have hvx : dot C v x = d * dot C (clr R p (A r) m) x := by rw [hv]; exact dot_smul C _ x d
    have hrow : ∀ i, i ≠ m → dot C (fun c => if i = m then v c else R i c + R i q * v c) x = dot C (R i) x + R i q * dot C v x := fun i e => by
      rw [← dot_add]
      exact dot_congr fun c _ => if_neg e
    have hrm : dot C (fun c => if m = m then v c else R m c + R m q * v c) x = dot C v x := dot_congr fun c _ => if_pos rfl
    constructor
    · intro hx
      have h0 : dot C v x = 0 := by rw [← hrm]; exact hx m (by omega)
      have hR : ∀ i, i < m → dot C (R i) x = 0 := fun i hi => by
        have := hx i (by omega)
        rw [hrow i (by omega), h0, El.mul_zero, El.add_zero] at this
        exact this
      intro i hi
      by_cases e : i = r
      · rw [e, ← clr_dot (p := p) (A r) hR m (Nat.le_refl _)]
        rw [h0] at hvx
        exact (El.mul_eq_zero.1 hvx.symm).resolve_left hd0
      · exact (h.sol x).1 hR i (by omega)
    · intro hx
      have hR := (h.sol x).2 fun i hi => hx i (by omega)
      have h0 : dot C v x = 0 := by rw [hvx, clr_dot (p := p) (A r) hR m (Nat.le_refl _), hx r (by omega), El.mul_zero]
      intro i hi
      by_cases e : i = m
      · rw [e, hrm, h0]
      · rw [hrow i e, hR i (by omega), h0, El.mul_zero, El.add_zero]
/-- Two rows change places. -/
def sw (i j x : Nat) : Nat := if x = i then j else if x = j then i else x
theorem Red.swap (h : Red A r C R p m) {a b : Nat} (ha : a < m) (hb : b < m) : Red A r C (fun i => R (sw a b i)) (fun i => p (sw a b i)) m := by
  have hlt : ∀ i, i < m → sw a b i < m := fun i hi => by unfold sw; split <;> (try split) <;> omega
  have hsw : ∀ i, sw a b (sw a b i) = i := fun i => by
    unfold sw
    by_cases e1 : i = a
    · rw [if_pos e1]
      by_cases e2 : b = a
      · rw [if_pos e2]; omega
      · rw [if_neg e2, if_pos rfl]; omega
    · rw [if_neg e1]
      by_cases e2 : i = b
      · rw [if_pos e2, if_pos rfl]; omega
      · rw [if_neg e2, if_neg e1, if_neg e2]
  refine ⟨fun i hi => h.pv _ (hlt i hi), fun i j hi hj => ?_, fun x => ?_⟩
  · rw [h.del _ _ (hlt i hi) (hlt j hj)]
    by_cases e : i = j
    · rw [if_pos e, if_pos (by rw [e])]
    · rw [if_neg e, if_neg (fun e2 => e (by rw [← hsw i, e2, hsw]))]
  · rw [← h.sol x]
    exact ⟨fun hx i hi => by have := hx (sw a b i) (hlt i hi); rwa [hsw] at this, fun hx i hi => hx _ (hlt i hi)⟩
/-- A column that is no row's own gives a solution. -/
theorem Red.null (h : Red A r C R p m) {f : Nat} (hf : f < C) (hn : ∀ i, i < m → p i ≠ f) {v : Nat → El n} (hvf : v f = 1) (hvp : ∀ i, i < m → v (p i) = R i f) (hv0 : ∀ c, c < C → c ≠ f → (∀ i, i < m → p i ≠ c) → v c = 0) : ∀ i, i < r → dot C (A i) v = 0 := by
  refine (h.sol v).1 fun i hi => ?_
  unfold dot
  rw [gsum_two hf (h.pv i hi) (fun e => hn i hi e.symm) fun c hc hcf hcp => ?_, hvf, El.mul_one, hvp i hi, h.del i i hi hi, if_pos rfl, El.one_mul, El.add_self]
  by_cases e : ∃ j, j < m ∧ p j = c
  · obtain ⟨j, hj, rfl⟩ := e
    rw [h.del i j hi hj, if_neg (fun e => hcp (by rw [e])), El.zero_mul]
  · rw [hv0 c hc hcf fun j hj e2 => e ⟨j, hj, e2⟩, El.mul_zero]
/-- If each column is some row's own, only 0 solves. -/
theorem Red.full (h : Red A r C R p m) (hall : ∀ c, c < C → ∃ i, i < m ∧ p i = c) {x : Nat → El n} (hx : ∀ i, i < r → dot C (A i) x = 0) : ∀ c, c < C → x c = 0 := fun c hc => by
  obtain ⟨i, hi, rfl⟩ := hall c hc
  have h0 := (h.sol x).2 hx i hi
  unfold dot at h0
  rw [gsum_one hc fun d hd hne => ?_, h.del i i hi hi, if_pos rfl, El.one_mul] at h0
  · exact h0
  · obtain ⟨j, hj, rfl⟩ := hall d hd
    rw [h.del i j hi hj, if_neg (fun e => hne (by rw [e])), El.zero_mul]
end
end Go.Fw

set_option linter.unusedVariables false
set_option linter.unusedSimpArgs false
set_option maxRecDepth 100000
set_option maxHeartbeats 1000000
namespace Go.Proofs.Ytbaljbadlfopgaa.Fw
open Go Go.Fw Go.Proofs
attribute [local irreducible] stepI

end Go.Proofs.Ytbaljbadlfopgaa.Fw
namespace Go.Proofs.Ytbaljbadlfopgaa.Fw
open Go Go.Fw
/-- Rows of the call's own and their pivots, growing. -/
structure RdM (B : Nat) (w : World) (sr sp : Value) (hs : List Hd) (P : List Int) (R : Nat → List (El 8)) (m C : Nat) : Prop where
  top : Ow B w sr hs
  piv : Ow B w sp P
  lh : hs.length = m
  lp : P.length = m
  row : ∀ j (hj : j < hs.length), Ow B w (Cell.v hs[j]) (R j)
  len : ∀ j, j < m → (R j).length = C
  two : ∀ i j (hi : i < hs.length) (hj : j < hs.length) c, i ≠ j → Fw.blk (Cell.v hs[i]) = some c → Fw.blk (Cell.v hs[j]) ≠ some c
  rt : ∀ j (hj : j < hs.length) c, Fw.blk (Cell.v hs[j]) = some c → Fw.blk sr ≠ some c
  rp : ∀ j (hj : j < hs.length) c, Fw.blk (Cell.v hs[j]) = some c → Fw.blk sp ≠ some c
  tp : ∀ c, Fw.blk sr = some c → Fw.blk sp ≠ some c
section
variable {B : Nat} {w w' : World} {sr sp : Value} {hs : List Hd} {P : List Int} {R : Nat → List (El 8)} {m C : Nat}
theorem RdM.nil (B : Nat) (w : World) (R : Nat → List (El 8)) (C : Nat) : RdM B w (.slice none 0 0) (.slice none 0 0) [] [] R 0 C :=
  ⟨Ow.nil _ _, Ow.nil _ _, rfl, rfl, fun j hj => by simp at hj, fun j hj => absurd hj (Nat.not_lt_zero _), fun i j hi => by simp at hi, fun j hj => by simp at hj, fun j hj => by simp at hj, fun c hc => by cases hc⟩
theorem RdM.up (h : RdM B w sr sp hs P R m C) (hB : RowKit.Below w.heap.size w w') : RdM B w' sr sp hs P R m C :=
  ⟨h.top.up hB, h.piv.up hB, h.lh, h.lp, fun j hj => (h.row j hj).up hB, h.len, h.two, h.rt, h.rp, h.tp⟩
/-- All blocks lie below the heap's size. -/
theorem RdM.lt (h : RdM B w sr sp hs P R m C) : (∀ c, Fw.blk sr = some c → c < w.heap.size) ∧ (∀ c, Fw.blk sp = some c → c < w.heap.size) ∧ ∀ j (hj : j < hs.length) c, Fw.blk (Cell.v hs[j]) = some c → c < w.heap.size :=
  ⟨fun c hc => (h.top.blk c hc).2, fun c hc => (h.piv.blk c hc).2, fun j hj c hc => ((h.row j hj).blk c hc).2⟩
/-- Another block was written. -/
theorem RdM.kp (h : RdM B w sr sp hs P R m C) {b : Nat} (hk : Kp w b w') (h1 : Fw.blk sr ≠ some b) (h2 : Fw.blk sp ≠ some b) (h3 : ∀ j (hj : j < hs.length), Fw.blk (Cell.v hs[j]) ≠ some b) : RdM B w' sr sp hs P R m C :=
  ⟨hk.ow h.top fun c hc e => h1 (by rw [hc, e]), hk.ow h.piv fun c hc e => h2 (by rw [hc, e]), h.lh, h.lp, fun j hj => hk.ow (h.row j hj) fun c hc e => h3 j hj (by rw [hc, e]), h.len, h.two, h.rt, h.rp, h.tp⟩
/-- Row i was written in place. -/
theorem RdM.put (h : RdM B w sr sp hs P R m C) {i b : Nat} (hi : i < hs.length) (hb : Fw.blk (Cell.v hs[i]) = some b) (hk : Kp w b w') {l : List (El 8)} (hl : l.length = C) (ho : Ow B w' (Cell.v hs[i]) l) : RdM B w' sr sp hs P (fun j => if j = i then l else R j) m C :=
  ⟨hk.ow h.top fun c hc e => h.rt i hi b hb (by rw [hc, e]), hk.ow h.piv fun c hc e => h.rp i hi b hb (by rw [hc, e]), h.lh, h.lp, fun j hj => by
    by_cases e : j = i
    · subst e; simp only [if_true]; exact ho
    · simp only [if_neg e]
      exact hk.ow (h.row j hj) fun c hc e2 => h.two i j hi hj b (fun e' => e e'.symm) hb (by rw [hc, e2]), fun j hj => by
    by_cases e : j = i
    · simp only [if_pos e]; exact hl
    · simp only [if_neg e]; exact h.len j hj, h.two, h.rt, h.rp, h.tp⟩
theorem RdM.congr {R' : Nat → List (El 8)} (h : RdM B w sr sp hs P R m C) (e : ∀ j, j < m → R' j = R j) : RdM B w sr sp hs P R' m C :=
  ⟨h.top, h.piv, h.lh, h.lp, fun j hj => by rw [e j (by rw [← h.lh]; exact hj)]; exact h.row j hj, fun j hj => by rw [e j hj]; exact h.len j hj, h.two, h.rt, h.rp, h.tp⟩
theorem swap_get {α : Type} {l : List α} {i j : Nat} (h0 : i < l.length) (h1 : i + 1 < l.length) (hj : j < ((l.set (i + 1) l[i]).set i l[i + 1]).length) (hs : sw i (i + 1) j < l.length) : ((l.set (i + 1) l[i]).set i l[i + 1])[j] = l[sw i (i + 1) j] := by
  unfold sw at hs ⊢
  by_cases e1 : j = i
  · subst e1
    rw [List.getElem_set_self]
    simp only [if_true]
  · rw [List.getElem_set_ne (fun e => e1 e.symm)]
    simp only [if_neg e1]
    by_cases e2 : j = i + 1
    · subst e2
      rw [List.getElem_set_self]
      simp only [if_true]
    · rw [List.getElem_set_ne (fun e => e2 e.symm)]
      simp only [if_neg e2]
theorem sw_lt {i j m : Nat} (hi : i + 1 < m) (hj : j < m) : sw i (i + 1) j < m := by unfold sw; split <;> (try split) <;> omega
theorem sw_sw (i x : Nat) : sw i (i + 1) (sw i (i + 1) x) = x := by
  unfold sw
  by_cases e1 : x = i
  · rw [if_pos e1, if_neg (by omega), if_pos rfl, e1]
  · rw [if_neg e1]
    by_cases e2 : x = i + 1
    · rw [if_pos e2, if_pos rfl, e2]
    · rw [if_neg e2, if_neg e1, if_neg e2]
theorem sw_inj {i a c : Nat} (e : sw i (i + 1) a = sw i (i + 1) c) : a = c := by
  have := congrArg (sw i (i + 1)) e
  rwa [sw_sw, sw_sw] at this
theorem RdM.swap (h : RdM B w sr sp hs P R m C) {i : Nat} (hi : i + 1 < m) (h0 : i < hs.length) (h1 : i + 1 < hs.length) (p0 : i < P.length) (p1 : i + 1 < P.length) (ht : Ow B w' sr ((hs.set (i + 1) hs[i]).set i hs[i + 1])) (hp : Ow B w' sp ((P.set (i + 1) P[i]).set i P[i + 1])) (hrow : ∀ j (hj : j < hs.length), Ow B w' (Cell.v hs[j]) (R j)) :
    RdM B w' sr sp ((hs.set (i + 1) hs[i]).set i hs[i + 1]) ((P.set (i + 1) P[i]).set i P[i + 1]) (fun j => R (sw i (i + 1) j)) m C := by
  have hg : ∀ j (hj : j < ((hs.set (i + 1) hs[i]).set i hs[i + 1]).length), ∃ h2 : sw i (i + 1) j < hs.length, ((hs.set (i + 1) hs[i]).set i hs[i + 1])[j] = hs[sw i (i + 1) j] := fun j hj => by
    have h2 : sw i (i + 1) j < hs.length := sw_lt h1 (by rw [List.length_set, List.length_set] at hj; exact hj)
    exact ⟨h2, swap_get h0 h1 hj h2⟩
  refine ⟨ht, hp, by rw [List.length_set, List.length_set]; exact h.lh, by rw [List.length_set, List.length_set]; exact h.lp, fun j hj => ?_, fun j hj => h.len _ (sw_lt hi hj), fun a c ha hc b hne hb => ?_, fun j hj c hc => ?_, fun j hj c hc => ?_, h.tp⟩
  · obtain ⟨h2, e⟩ := hg j hj
    rw [e]; exact hrow _ h2
  · obtain ⟨h2, e⟩ := hg a ha
    obtain ⟨h3, e3⟩ := hg c hc
    rw [e] at hb
    rw [e3]
    exact h.two _ _ h2 h3 b (fun e4 => hne (sw_inj e4)) hb
  · obtain ⟨h2, e⟩ := hg j hj
    rw [e] at hc; exact h.rt _ h2 c hc
  · obtain ⟨h2, e⟩ := hg j hj
    rw [e] at hc; exact h.rp _ h2 c hc
end
end Go.Proofs.Ytbaljbadlfopgaa.Fw

set_option linter.unusedVariables false
set_option linter.unusedSimpArgs false
set_option maxRecDepth 100000
set_option maxHeartbeats 1000000
namespace Go.Proofs.Ytbaljbadlfopgaa.Fw
open Go Go.Fw Go.Proofs
attribute [local irreducible] stepI
def c_culletref10_reduced : C := .seq (.ops [⟨0,some 2,none,.mov (.c (.slice none 0 0)),[]⟩,⟨1,some 3,none,.mov (.c (.slice none 0 0)),[]⟩]) (.seq (.ops [⟨0,some 4,none,.mov (.c (.slice none 0 0)),[]⟩]) (.seq (.ops [⟨0,some 5,none,.mov (.c (.slice none 0 0)),[]⟩]) (.seq (.seq (.ops [⟨0,some 6,none,.mov (.c (.int .i64 0)),[]⟩]) (.block 0 (.loop (.seq (.seq (.ops [⟨0,some 15,none,.mov (.t 6),[]⟩,⟨1,some 16,none,.mov (.t 0),[]⟩,⟨2,some 17,none,.len (.t 16),[]⟩,⟨3,some 18,none,.bin .lss (.t 15) (.t 17),[]⟩]) (.ite (.t 18) .skip (.exit 0))) (.seq (.block 1 (.seq (.ops [⟨0,some 21,none,.mov (.t 0),[]⟩,⟨1,some 22,none,.mov (.t 6),[]⟩,⟨2,some 23,none,.ixs 1 (.t 21) (.t 22),[]⟩,⟨3,some 24,none,.ld (.t 23),[]⟩,⟨4,some 25,none,.len (.t 24),[]⟩,⟨5,some 26,none,.mks 5 1 [.int .u8 0] (.t 25) (.t 25),[]⟩,⟨6,some 7,none,.mov (.t 26),[]⟩]) (.seq (.ops [⟨0,some 27,none,.mov (.t 7),[]⟩,⟨1,some 28,none,.mov (.t 0),[]⟩,⟨2,some 29,none,.mov (.t 6),[]⟩,⟨3,some 30,none,.ixs 1 (.t 28) (.t 29),[]⟩,⟨4,some 31,none,.ld (.t 30),[]⟩,⟨5,some 32,none,.cpy 1 (.t 27) (.t 31),[]⟩]) (.seq (.seq (.ops [⟨0,some 8,none,.mov (.c (.int .i64 0)),[]⟩]) (.block 2 (.loop (.seq (.seq (.ops [⟨0,some 33,none,.mov (.t 8),[]⟩,⟨1,some 34,none,.mov (.t 4),[]⟩,⟨2,some 35,none,.len (.t 34),[]⟩,⟨3,some 36,none,.bin .lss (.t 33) (.t 35),[]⟩]) (.ite (.t 36) .skip (.exit 2))) (.seq (.block 3 (.dops [⟨0,some 39,none,.mov (.t 7),[]⟩,⟨1,some 40,none,.mov (.t 4),[]⟩,⟨2,some 41,none,.mov (.t 8),[]⟩,⟨3,some 42,none,.ixs 1 (.t 40) (.t 41),[]⟩,⟨4,some 43,none,.ld (.t 42),[]⟩,⟨5,some 44,none,.mov (.t 7),[]⟩,⟨6,some 45,none,.mov (.t 5),[]⟩,⟨7,some 46,none,.mov (.t 8),[]⟩,⟨8,some 47,none,.ixs 1 (.t 45) (.t 46),[]⟩,⟨9,some 48,none,.ld (.t 47),[]⟩,⟨10,some 49,none,.ixs 1 (.t 44) (.t 48),[]⟩,⟨11,some 50,none,.ld (.t 49),[]⟩,⟨12,some 51,none,.call (.c (.func (.func 159) #[] #[])) [.t 39,.t 43,.t 50],[]⟩])) (.ops [⟨0,some 37,none,.mov (.t 8),[]⟩,⟨1,some 38,none,.bin .add (.t 37) (.c (.int .i64 1)),[]⟩,⟨2,some 8,none,.mov (.t 38),[]⟩])))))) (.seq (.ops [⟨0,some 9,none,.mov (.c (.int .i64 0)),[]⟩]) (.seq (.block 4 (.loop (.seq (.seq (.ops [⟨0,some 52,none,.mov (.t 9),[]⟩,⟨1,some 53,none,.mov (.t 7),[]⟩,⟨2,some 54,none,.len (.t 53),[]⟩,⟨3,some 55,none,.bin .lss (.t 52) (.t 54),[]⟩,⟨4,some 56,none,.mov (.t 55),[]⟩,⟨5,some 57,(some (56,true)),.mov (.t 7),[]⟩,⟨6,some 58,(some (56,true)),.mov (.t 9),[]⟩,⟨7,some 59,(some (56,true)),.ixs 1 (.t 57) (.t 58),[]⟩,⟨8,some 60,(some (56,true)),.ld (.t 59),[]⟩,⟨9,some 61,(some (56,true)),.bin .eql (.t 60) (.c (.int .u8 0)),[]⟩,⟨10,some 62,none,.pick (.t 56) (.t 61) (.c (.bool false)),[]⟩]) (.ite (.t 62) .skip (.exit 4))) (.block 5 (.ops [⟨0,some 63,none,.mov (.t 9),[]⟩,⟨1,some 64,none,.bin .add (.t 63) (.c (.int .i64 1)),[]⟩,⟨2,some 9,none,.mov (.t 64),[]⟩]))))) (.seq (.seq (.ops [⟨0,some 65,none,.mov (.t 9),[]⟩,⟨1,some 66,none,.mov (.t 7),[]⟩,⟨2,some 67,none,.len (.t 66),[]⟩,⟨3,some 68,none,.bin .eql (.t 65) (.t 67),[]⟩]) (.ite (.t 68) (.exit 1) .skip)) (.seq (.ops [⟨0,some 70,none,.mov (.t 7),[]⟩,⟨1,some 71,none,.mov (.t 9),[]⟩,⟨2,some 72,none,.ixs 1 (.t 70) (.t 71),[]⟩,⟨3,some 73,none,.ld (.t 72),[]⟩,⟨4,some 74,none,.call (.c (.func (.func 136) #[] #[])) [.t 73],[]⟩,⟨5,some 69,none,.mov (.t 74),[]⟩,⟨6,some 75,none,.ext (.t 69) 0,[]⟩,⟨7,some 76,none,.ext (.t 69) 1,[]⟩,⟨8,some 10,none,.mov (.t 75),[]⟩,⟨9,some 11,none,.mov (.t 76),[]⟩]) (.seq (.seq (.ops [⟨0,some 77,none,.mov (.t 9),[]⟩,⟨1,some 12,none,.mov (.t 77),[]⟩]) (.block 6 (.loop (.seq (.seq (.ops [⟨0,some 78,none,.mov (.t 12),[]⟩,⟨1,some 79,none,.mov (.t 7),[]⟩,⟨2,some 80,none,.len (.t 79),[]⟩,⟨3,some 81,none,.bin .lss (.t 78) (.t 80),[]⟩]) (.ite (.t 81) .skip (.exit 6))) (.seq (.block 7 (.ops [⟨0,some 84,none,.mov (.t 7),[]⟩,⟨1,some 85,none,.mov (.t 12),[]⟩,⟨2,some 86,none,.mov (.t 7),[]⟩,⟨3,some 87,none,.mov (.t 12),[]⟩,⟨4,some 88,none,.ixs 1 (.t 86) (.t 87),[]⟩,⟨5,some 89,none,.ld (.t 88),[]⟩,⟨6,some 90,none,.mov (.t 10),[]⟩,⟨7,some 91,none,.call (.c (.func (.func 100) #[] #[])) [.t 89,.t 90],[]⟩,⟨8,some 92,none,.ixs 1 (.t 84) (.t 85),[]⟩,⟨9,none,none,.st (.t 92) (.t 91),[]⟩])) (.ops [⟨0,some 82,none,.mov (.t 12),[]⟩,⟨1,some 83,none,.bin .add (.t 82) (.c (.int .i64 1)),[]⟩,⟨2,some 12,none,.mov (.t 83),[]⟩])))))) (.seq (.seq (.ops [⟨0,some 13,none,.mov (.c (.int .i64 0)),[]⟩]) (.block 8 (.loop (.seq (.seq (.ops [⟨0,some 93,none,.mov (.t 13),[]⟩,⟨1,some 94,none,.mov (.t 4),[]⟩,⟨2,some 95,none,.len (.t 94),[]⟩,⟨3,some 96,none,.bin .lss (.t 93) (.t 95),[]⟩]) (.ite (.t 96) .skip (.exit 8))) (.seq (.block 9 (.dops [⟨0,some 99,none,.mov (.t 4),[]⟩,⟨1,some 100,none,.mov (.t 13),[]⟩,⟨2,some 101,none,.ixs 1 (.t 99) (.t 100),[]⟩,⟨3,some 102,none,.ld (.t 101),[]⟩,⟨4,some 103,none,.mov (.t 7),[]⟩,⟨5,some 104,none,.mov (.t 4),[]⟩,⟨6,some 105,none,.mov (.t 13),[]⟩,⟨7,some 106,none,.ixs 1 (.t 104) (.t 105),[]⟩,⟨8,some 107,none,.ld (.t 106),[]⟩,⟨9,some 108,none,.mov (.t 9),[]⟩,⟨10,some 109,none,.ixs 1 (.t 107) (.t 108),[]⟩,⟨11,some 110,none,.ld (.t 109),[]⟩,⟨12,some 111,none,.call (.c (.func (.func 159) #[] #[])) [.t 102,.t 103,.t 110],[]⟩])) (.ops [⟨0,some 97,none,.mov (.t 13),[]⟩,⟨1,some 98,none,.bin .add (.t 97) (.c (.int .i64 1)),[]⟩,⟨2,some 13,none,.mov (.t 98),[]⟩])))))) (.seq (.ops [⟨0,some 112,none,.mov (.t 4),[]⟩,⟨1,some 113,none,.mov (.t 7),[]⟩,⟨2,some 114,none,.bsl 25 1 [.slice none 0 0] [(0,(1,.t 113))],[]⟩,⟨3,some 115,none,.app 25 24 [.slice none 0 0] (.t 112) (.t 114),[]⟩,⟨4,some 4,none,.mov (.t 115),[]⟩]) (.seq (.ops [⟨0,some 116,none,.mov (.t 5),[]⟩,⟨1,some 117,none,.mov (.t 9),[]⟩,⟨2,some 118,none,.bsl 3 1 [.int .i64 0] [(0,(1,.t 117))],[]⟩,⟨3,some 119,none,.app 3 8 [.int .i64 0] (.t 116) (.t 118),[]⟩,⟨4,some 5,none,.mov (.t 119),[]⟩]) (.seq (.ops [⟨0,some 120,none,.mov (.t 4),[]⟩,⟨1,some 121,none,.len (.t 120),[]⟩,⟨2,some 122,none,.bin .sub (.t 121) (.c (.int .i64 1)),[]⟩,⟨3,some 14,none,.mov (.t 122),[]⟩]) (.block 10 (.loop (.seq (.seq (.dops [⟨0,some 123,none,.mov (.t 14),[]⟩,⟨1,some 124,none,.bin .gtr (.t 123) (.c (.int .i64 0)),[]⟩,⟨2,some 125,none,.mov (.t 124),[]⟩,⟨3,some 126,(some (125,true)),.mov (.t 5),[]⟩,⟨4,some 127,(some (125,true)),.mov (.t 14),[]⟩,⟨5,some 128,(some (125,true)),.ixs 1 (.t 126) (.t 127),[]⟩,⟨6,some 129,(some (125,true)),.ld (.t 128),[]⟩,⟨7,some 130,(some (125,true)),.mov (.t 5),[]⟩,⟨8,some 131,(some (125,true)),.mov (.t 14),[]⟩,⟨9,some 132,(some (125,true)),.bin .sub (.t 131) (.c (.int .i64 1)),[]⟩,⟨10,some 133,(some (125,true)),.ixs 1 (.t 130) (.t 132),[]⟩,⟨11,some 134,(some (125,true)),.ld (.t 133),[]⟩,⟨12,some 135,(some (125,true)),.bin .lss (.t 129) (.t 134),[]⟩,⟨13,some 136,none,.pick (.t 125) (.t 135) (.c (.bool false)),[]⟩]) (.ite (.t 136) .skip (.exit 10))) (.seq (.block 11 (.seq (.dops [⟨0,some 139,none,.mov (.t 4),[]⟩,⟨1,some 140,none,.mov (.t 14),[]⟩,⟨2,some 141,none,.mov (.t 4),[]⟩,⟨3,some 142,none,.mov (.t 14),[]⟩,⟨4,some 143,none,.bin .sub (.t 142) (.c (.int .i64 1)),[]⟩,⟨5,some 144,none,.mov (.t 4),[]⟩,⟨6,some 145,none,.mov (.t 14),[]⟩,⟨7,some 146,none,.bin .sub (.t 145) (.c (.int .i64 1)),[]⟩,⟨8,some 147,none,.ixs 1 (.t 144) (.t 146),[]⟩,⟨9,some 148,none,.ld (.t 147),[]⟩,⟨10,some 149,none,.mov (.t 4),[]⟩,⟨11,some 150,none,.mov (.t 14),[]⟩,⟨12,some 151,none,.ixs 1 (.t 149) (.t 150),[]⟩,⟨13,some 152,none,.ld (.t 151),[]⟩,⟨14,some 153,none,.ixs 1 (.t 139) (.t 140),[]⟩,⟨15,none,none,.st (.t 153) (.t 148),[]⟩,⟨16,some 154,none,.ixs 1 (.t 141) (.t 143),[]⟩,⟨17,none,none,.st (.t 154) (.t 152),[]⟩]) (.dops [⟨0,some 155,none,.mov (.t 5),[]⟩,⟨1,some 156,none,.mov (.t 14),[]⟩,⟨2,some 157,none,.mov (.t 5),[]⟩,⟨3,some 158,none,.mov (.t 14),[]⟩,⟨4,some 159,none,.bin .sub (.t 158) (.c (.int .i64 1)),[]⟩,⟨5,some 160,none,.mov (.t 5),[]⟩,⟨6,some 161,none,.mov (.t 14),[]⟩,⟨7,some 162,none,.bin .sub (.t 161) (.c (.int .i64 1)),[]⟩,⟨8,some 163,none,.ixs 1 (.t 160) (.t 162),[]⟩,⟨9,some 164,none,.ld (.t 163),[]⟩,⟨10,some 165,none,.mov (.t 5),[]⟩,⟨11,some 166,none,.mov (.t 14),[]⟩,⟨12,some 167,none,.ixs 1 (.t 165) (.t 166),[]⟩,⟨13,some 168,none,.ld (.t 167),[]⟩,⟨14,some 169,none,.ixs 1 (.t 155) (.t 156),[]⟩,⟨15,none,none,.st (.t 169) (.t 164),[]⟩,⟨16,some 170,none,.ixs 1 (.t 157) (.t 159),[]⟩,⟨17,none,none,.st (.t 170) (.t 168),[]⟩]))) (.ops [⟨0,some 137,none,.mov (.t 14),[]⟩,⟨1,some 138,none,.bin .sub (.t 137) (.c (.int .i64 1)),[]⟩,⟨2,some 14,none,.mov (.t 138),[]⟩])))))))))))))))))) (.ops [⟨0,some 19,none,.mov (.t 6),[]⟩,⟨1,some 20,none,.bin .add (.t 19) (.c (.int .i64 1)),[]⟩,⟨2,some 6,none,.mov (.t 20),[]⟩])))))) (.seq (.ops [⟨0,some 171,none,.mov (.t 4),[]⟩,⟨1,some 172,none,.mov (.t 5),[]⟩,⟨2,some 2,none,.mov (.t 171),[]⟩,⟨3,some 3,none,.mov (.t 172),[]⟩]) .ret))))
attribute [irreducible] c_culletref10_reduced
theorem run_culletref10_reduced {args : List Value} {w : World} {K : Value → World → Prop} (hn : args.length ≤ 173) (h : WP Try.prog c_culletref10_reduced (endQ [.t 2, .t 3] K) (initT args) w) : CallV Try.prog 154 args w K :=
  call_of follows Try.func154 (by kernel_rfl) (by kernel_rfl) hn h
end Go.Proofs.Ytbaljbadlfopgaa.Fw
namespace Go.Proofs.Ytbaljbadlfopgaa.Fw
open Go Go.Fw
set_option maxHeartbeats 8000000 in
theorem culletref10_reduced_spec (w : World) (s : Value) (hA : List Hd) (LA : Nat → List (El 8)) (C : Nat) (h : Sl w s hA) (hr : ∀ j (hj : j < hA.length), Sl w (Cell.v hA[j]) (LA j)) (hl : ∀ j, j < hA.length → (LA j).length = C) (hn : hA.length ≤ 256) (hC1 : 1 ≤ C) (hC : C ≤ 512) :
    CallV Try.prog 154 [s] w fun v w' => RowKit.Below w.heap.size w w' ∧ ∃ (sr sp : Value) (hs : List Hd) (P : List Int) (R : Nat → List (El 8)) (p : Nat → Nat) (m : Nat), v = .tuple #[sr, sp] ∧ RdM w.heap.size w' sr sp hs P R m C ∧ Red (fun i => nth (LA i)) hA.length C (fun i => nth (R i)) p m ∧ (∀ j (hj : j < P.length), P[j] = (p j : Int)) ∧ (∀ a b, a < b → b < m → p a < p b) ∧ m ≤ hA.length := by
  refine run_culletref10_reduced (by simp) ?_
  simp only [c_culletref10_reduced, WS, ↓reduceIte, Nat.reduceEqDiff, reduceCtorEq]
  refine loop_of (fun t w' => t 0 = s ∧ RowKit.Below w.heap.size w w' ∧ ∃ (r : Nat) (sr sp : Value) (hs : List Hd) (P : List Int) (R : Nat → List (El 8)) (p : Nat → Nat) (m : Nat), t 6 = .int .i64 (r : Int) ∧ r ≤ hA.length ∧ t 4 = sr ∧ t 5 = sp ∧ RdM w.heap.size w' sr sp hs P R m C ∧ Red (fun i => nth (LA i)) r C (fun i => nth (R i)) p m ∧ (∀ j (hj : j < P.length), P[j] = (p j : Int)) ∧ (∀ a b, a < b → b < m → p a < p b) ∧ m ≤ r) (fun t _ => hA.length - (toI (t 6)).toNat)
    ⟨by simp only [WS, ↓reduceIte, Nat.reduceEqDiff, reduceCtorEq], RowKit.Below.refl _ _, 0, .slice none 0 0, .slice none 0 0, [], [], fun _ => [], fun _ => 0, 0, by simp only [WS, ↓reduceIte, Nat.reduceEqDiff, reduceCtorEq]; rfl, by omega, by simp only [WS, ↓reduceIte, Nat.reduceEqDiff, reduceCtorEq], by simp only [WS, ↓reduceIte, Nat.reduceEqDiff, reduceCtorEq], RdM.nil _ _ _ _, Red.zero, fun j hj => by simp at hj, fun a b _ hb => absurd hb (Nat.not_lt_zero _), Nat.le_refl _⟩ ?_
  rintro t w1 ⟨t0, B, r, sr, sp, hs, P, R, p, m, t6, hr', t4, t5, hM, hR, hP, hsrt, hmr⟩
  have h1 := h.up B
  by_cases hrl : r < hA.length
  rotate_left
  · obtain rfl : r = hA.length := by omega
    simp (maxSteps := 1000000) (disch := omega) only [WS, ↓reduceIte, Nat.reduceEqDiff, reduceCtorEq, AS, t0, t6, t4, t5, h1.Xlen]
    exact ⟨B, sr, sp, hs, P, R, p, m, rfl, hM, hR, hP, hsrt, hmr⟩
  have rr := (hr r hrl).up B
  have lr := hl r hrl
  have z1 := B.size
  simp (maxSteps := 1000000) (disch := omega) only [WS, ↓reduceIte, Nat.reduceEqDiff, reduceCtorEq, AS, t0, t6, t4, t5, h1.Xlen, h1.Xix hrl, h1.Xld hrl, rr.Xlen, lr]
  refine X_mks (x := (0 : El 8)) (n := C) (by simp only [maxBytes]; omega) (by omega) fun sv w2 ov hB2 => ?_
  have h2 := h1.up hB2
  have rr2 := rr.up hB2
  simp (maxSteps := 1000000) (disch := omega) only [WS, ↓reduceIte, Nat.reduceEqDiff, reduceCtorEq, AS, t0, t6, t4, t5, h2.Xix hrl, h2.Xld hrl]
  refine ov.Xcpy rr2 fun w3 ov3 hg3 => ?_
  have eV : (LA r).take (List.replicate C (0 : El 8)).length ++ (List.replicate C (0 : El 8)).drop (LA r).length = LA r := by
    rw [List.length_replicate, List.take_of_length_le (by omega), List.drop_of_length_le (by rw [List.length_replicate]; omega), List.append_nil]
  rw [eV] at ov3
  have hB3 := Below.app hB2 hB2.size hg3 fun c hc => (ov.blk c hc).1
  obtain ⟨bv, hbv, hbv2⟩ := ov3.sl.blk_lt (ne_nil_of (i := 0) (by rw [lr]; exact hC1))
  have hbv1 : w1.heap.size ≤ bv := (ov3.blk bv hbv).1
  obtain ⟨lt1, lt2, lt3⟩ := hM.lt
  have hM3 := hM.up hB3
  clear ov rr rr2 h1 h2 hB2 hg3
  have lhs : ((hs.length : Nat) : Int) = (m : Int) := by rw [hM.lh]
  simp (maxSteps := 1000000) (disch := omega) only [WS, ↓reduceIte, Nat.reduceEqDiff, reduceCtorEq, AS, t0, t6, t4, t5, hM3.top.sl.Xlen, lhs]
  refine loop_of (fun t w' => t 0 = s ∧ t 6 = .int .i64 (r : Int) ∧ t 4 = sr ∧ t 5 = sp ∧ t 7 = sv ∧ RowKit.Below w1.heap.size w1 w' ∧ ∃ (i : Nat) (V : List (El 8)), t 8 = .int .i64 (i : Int) ∧ i ≤ m ∧ V.length = C ∧ (∀ c, c < C → nth V c = clr (fun i => nth (R i)) p (nth (LA r)) i c) ∧ Ow w1.heap.size w' sv V) (fun t _ => m - (toI (t 8)).toNat)
    ⟨by simp only [WS, ↓reduceIte, Nat.reduceEqDiff, reduceCtorEq]; exact t0, by simp only [WS, ↓reduceIte, Nat.reduceEqDiff, reduceCtorEq]; exact t6, by simp only [WS, ↓reduceIte, Nat.reduceEqDiff, reduceCtorEq]; exact t4, by simp only [WS, ↓reduceIte, Nat.reduceEqDiff, reduceCtorEq]; exact t5, by simp only [WS, ↓reduceIte, Nat.reduceEqDiff, reduceCtorEq], hB3, 0, LA r, by simp only [WS, ↓reduceIte, Nat.reduceEqDiff, reduceCtorEq]; rfl, by omega, lr, fun c _ => rfl, ov3⟩ ?_
  clear t0 t6 t4 t5 ov3 hM3 hB3
  rintro t w4 ⟨t0, t6, t4, t5, t7, D, i, V, t8, hi, lV, hV, ov⟩
  have hM4 := hM.up D
  have lVi : ((V.length : Nat) : Int) = (C : Int) := by rw [lV]
  by_cases him : i < m
  · have ih : i < hs.length := by rw [hM.lh]; exact him
    have ip : i < P.length := by rw [hM.lp]; exact him
    have hpi := hP i ip
    have hpC := hR.pv i him
    have iV : p i < V.length := by omega
    simp (maxSteps := 1000000) (disch := omega) only [WS, ↓reduceIte, Nat.reduceEqDiff, reduceCtorEq, AS, t0, t6, t4, t5, t7, t8, hM4.top.sl.Xlen, lhs]
    refine WP_dops ?_
    have bd := bel_drew w4
    have D := D.trans (bd.mono D.size)
    have ov := ov.up bd
    clear bd hM4
    have hM4 := hM.up D
    have zD := D.size
    simp (maxSteps := 1000000) (disch := omega) only [ES, List.mem_cons, List.not_mem_nil, implies_true, forall_const, WS, ↓reduceIte, Nat.reduceEqDiff, reduceCtorEq, AS, t0, t6, t4, t5, t7, t8, hM4.top.sl.Eix ih, hM4.top.sl.Eld ih, hM4.piv.sl.Eix ip, hM4.piv.sl.Eld ip, cell_int, hpi, ov.sl.Eix iV, ov.sl.Eld iV, cell_e8]
    refine E_call0 ((culletref10_less_spec w4.drew w1.heap.size sv (Cell.v hs[i]) V (R i) V[p i] bv ov hbv (hM4.row i ih).sl (fun e => by have := lt3 i ih bv e; omega) (by rw [hM.len i him, lV]) (by omega) zD).mono ?_)
    rintro _ w5 ⟨ov5, hk, hB5⟩
    have D := D.trans hB5
    simp (maxSteps := 1000000) (disch := omega) only [ES, List.mem_cons, List.not_mem_nil, implies_true, forall_const, WS, ↓reduceIte, Nat.reduceEqDiff, reduceCtorEq, AS, t0, t6, t4, t5, t7, t8]
    refine ⟨⟨D, i + 1, _, rfl, by omega, by rw [lesL_len]; exact lV, fun c hc => ?_, ov5⟩, by omega⟩
    rw [lesL_nth (by omega), hV c hc, ← nth_get iV, hV (p i) hpC]
    rfl
  obtain rfl : i = m := by omega
  simp (maxSteps := 1000000) (disch := omega) only [WS, ↓reduceIte, Nat.reduceEqDiff, reduceCtorEq, AS, t0, t6, t4, t5, t7, t8, hM4.top.sl.Xlen, lhs]
  refine loop_of (fun t w' => w' = w4 ∧ t 0 = s ∧ t 6 = .int .i64 (r : Int) ∧ t 4 = sr ∧ t 5 = sp ∧ t 7 = sv ∧ ∃ q : Nat, t 9 = .int .i64 (q : Int) ∧ q ≤ C ∧ ∀ c, c < q → nth V c = 0) (fun t _ => C - (toI (t 9)).toNat)
    ⟨rfl, by simp only [WS, ↓reduceIte, Nat.reduceEqDiff, reduceCtorEq]; exact t0, by simp only [WS, ↓reduceIte, Nat.reduceEqDiff, reduceCtorEq]; exact t6, by simp only [WS, ↓reduceIte, Nat.reduceEqDiff, reduceCtorEq]; exact t4, by simp only [WS, ↓reduceIte, Nat.reduceEqDiff, reduceCtorEq]; exact t5, by simp only [WS, ↓reduceIte, Nat.reduceEqDiff, reduceCtorEq]; exact t7, 0, by simp only [WS, ↓reduceIte, Nat.reduceEqDiff, reduceCtorEq]; rfl, by omega, fun c hc => absurd hc (Nat.not_lt_zero _)⟩ ?_
  clear t0 t6 t4 t5 t7 t8
  rintro t w5 ⟨rfl, t0, t6, t4, t5, t7, q, t9, hq, hz⟩
  by_cases hqC : q < C
  rotate_left
  · obtain rfl : q = C := by omega
    simp (maxSteps := 1000000) (disch := omega) only [WS, ↓reduceIte, Nat.reduceEqDiff, reduceCtorEq, AS, t0, t6, t4, t5, t7, t9, ov.sl.Xlen, lVi]
    exact ⟨⟨B.trans (D.mono z1), r + 1, sr, sp, hs, P, R, p, i, rfl, by omega, rfl, rfl, hM4, hR.skip fun c hc => by rw [← hV c hc]; exact hz c hc, hP, hsrt, by omega⟩, by omega⟩
  have iq : q < V.length := by omega
  by_cases hVq : nth V q = 0
  · have ez : ((V[q].v.toNat : Nat) : Int) = 0 := by rw [← nth_get iq, hVq]; rfl
    simp (maxSteps := 1000000) (disch := omega) only [WS, ↓reduceIte, Nat.reduceEqDiff, reduceCtorEq, AS, t0, t6, t4, t5, t7, t9, ov.sl.Xlen, lVi, ov.sl.Xix iq, ov.sl.Xld iq, cell_e8, ez, show decide ((0 : Int) = 0) = true from rfl]
    refine ⟨⟨q + 1, rfl, by omega, fun c hc => ?_⟩, by omega⟩
    by_cases e : c = q
    · rw [e]; exact hVq
    · exact hz c (by omega)
  have ez : ((V[q].v.toNat : Nat) : Int) ≠ 0 := fun e => hVq (by rw [nth_get iq]; exact El.ext (BitVec.eq_of_toNat_eq (by show V[q].v.toNat = 0; omega)))
  have hVq' : V[q] ≠ 0 := by rw [← nth_get iq]; exact hVq
  have hqC' : ¬ (q : Int) = (C : Int) := by omega
  obtain ⟨d, hdd⟩ : ∃ d, d = V[q].inv := ⟨_, rfl⟩
  have hdv : d * clr (fun i => nth (R i)) p (nth (LA r)) i q = 1 := by rw [← hV q hqC, nth_get iq, hdd, El.mul_comm, El.mul_inv _ hVq']
  simp (maxSteps := 1000000) (disch := omega) only [WS, ↓reduceIte, Nat.reduceEqDiff, reduceCtorEq, AS, t0, t6, t4, t5, t7, t9, ov.sl.Xlen, lVi, ov.sl.Xix iq, ov.sl.Xld iq, cell_e8, decide_eq_false ez, hqC']
  refine X_call0 ((culletref02_Inv_spec w5 V[q] hVq').mono ?_)
  rw [← hdd]
  rintro _ w6 ⟨rfl, rfl⟩
  simp (maxSteps := 1000000) (disch := omega) only [WS, ↓reduceIte, Nat.reduceEqDiff, reduceCtorEq, AS, t0, t6, t4, t5, t7, t9]
  refine loop_of (fun t w' => t 0 = s ∧ t 6 = .int .i64 (r : Int) ∧ t 4 = sr ∧ t 5 = sp ∧ t 7 = sv ∧ t 9 = .int .i64 (q : Int) ∧ t 10 = .int .u8 (d.v.toNat : Int) ∧ RowKit.Below w1.heap.size w1 w' ∧ ∃ (x : Nat) (S : List (El 8)), t 12 = .int .i64 (x : Int) ∧ q ≤ x ∧ x ≤ C ∧ S.length = C ∧ (∀ c, nth S c = if q ≤ c ∧ c < x then nth V c * d else nth V c) ∧ Ow w1.heap.size w' sv S) (fun t _ => C - (toI (t 12)).toNat)
    ⟨by simp only [WS, ↓reduceIte, Nat.reduceEqDiff, reduceCtorEq]; exact t0, by simp only [WS, ↓reduceIte, Nat.reduceEqDiff, reduceCtorEq]; exact t6, by simp only [WS, ↓reduceIte, Nat.reduceEqDiff, reduceCtorEq]; exact t4, by simp only [WS, ↓reduceIte, Nat.reduceEqDiff, reduceCtorEq]; exact t5, by simp only [WS, ↓reduceIte, Nat.reduceEqDiff, reduceCtorEq]; exact t7, by simp only [WS, ↓reduceIte, Nat.reduceEqDiff, reduceCtorEq]; exact t9, by simp only [WS, ↓reduceIte, Nat.reduceEqDiff, reduceCtorEq], D, q, V, by simp only [WS, ↓reduceIte, Nat.reduceEqDiff, reduceCtorEq], Nat.le_refl _, by omega, lV, fun c => by rw [if_neg (by omega)], ov⟩ ?_
  clear t0 t6 t4 t5 t7 t9
  rintro t w7 ⟨t0, t6, t4, t5, t7, t9, t10, D, x, S, t12, hqx, hxC, lS, hS, ov⟩
  have lSi : ((S.length : Nat) : Int) = (C : Int) := by rw [lS]
  by_cases hx2 : x < C
  · have ix : x < S.length := by omega
    simp (maxSteps := 1000000) (disch := omega) only [WS, ↓reduceIte, Nat.reduceEqDiff, reduceCtorEq, AS, t0, t6, t4, t5, t7, t9, t10, t12, ov.sl.Xlen, lSi, ov.sl.Xix ix, ov.sl.Xld ix, cell_e8]
    refine X_call0 ((culletref02_Mul_spec w7 S[x] d).mono ?_)
    rintro _ w8 ⟨rfl, rfl⟩
    simp (maxSteps := 1000000) (disch := omega) only [WS, ↓reduceIte, Nat.reduceEqDiff, reduceCtorEq, AS, t0, t6, t4, t5, t7, t9, t10, t12, ov.sl.Xix ix]
    refine Ow.Xst ov ix (S[x] * d) fun w9 ov2 hg => ?_
    have D := Below.app D D.size hg fun c hc => (ov.blk c hc).1
    simp (maxSteps := 1000000) (disch := omega) only [WS, ↓reduceIte, Nat.reduceEqDiff, reduceCtorEq, AS, t0, t6, t4, t5, t7, t9, t10, t12]
    refine ⟨⟨D, x + 1, _, rfl, by omega, by omega, by rw [List.length_set]; exact lS, fun c => ?_, ov2⟩, by omega⟩
    rw [nth_set ix, hS c]
    by_cases e : c = x
    · subst e
      have := hS c
      rw [if_neg (by omega), nth_get ix] at this
      rw [if_pos rfl, if_pos (by omega), this]
    · rw [if_neg e]
      by_cases e2 : q ≤ c ∧ c < x
      · rw [if_pos e2, if_pos (by omega)]
      · rw [if_neg e2, if_neg (by omega)]
  obtain rfl : x = C := by omega
  have hSv : ∀ c, c < x → nth S c = d * clr (fun i => nth (R i)) p (nth (LA r)) i c := fun c hc => by
    rw [hS c, ← hV c hc]
    by_cases e : q ≤ c
    · rw [if_pos ⟨e, hc⟩, El.mul_comm]
    · rw [if_neg (by omega), hz c (by omega), El.mul_zero]
  have hM7 := hM.up D
  have z7 := D.size
  simp (maxSteps := 1000000) (disch := omega) only [WS, ↓reduceIte, Nat.reduceEqDiff, reduceCtorEq, AS, t0, t6, t4, t5, t7, t9, t10, t12, ov.sl.Xlen, lSi, hM7.top.sl.Xlen, lhs]
  have hBw := B.size
  refine loop_of (fun t w' => t 0 = s ∧ t 6 = .int .i64 (r : Int) ∧ t 4 = sr ∧ t 5 = sp ∧ t 7 = sv ∧ t 9 = .int .i64 (q : Int) ∧ RowKit.Below w.heap.size w w' ∧ w1.heap.size ≤ w'.heap.size ∧ ∃ (j : Nat) (Rc : Nat → List (El 8)), t 13 = .int .i64 (j : Int) ∧ j ≤ i ∧ RdM w.heap.size w' sr sp hs P Rc i x ∧ (∀ y, y < i → Rc y = if y < j then lesL (R y) S (nth (R y) q) else R y) ∧ Ow w1.heap.size w' sv S) (fun t _ => i - (toI (t 13)).toNat)
    ⟨by simp only [WS, ↓reduceIte, Nat.reduceEqDiff, reduceCtorEq]; exact t0, by simp only [WS, ↓reduceIte, Nat.reduceEqDiff, reduceCtorEq]; exact t6, by simp only [WS, ↓reduceIte, Nat.reduceEqDiff, reduceCtorEq]; exact t4, by simp only [WS, ↓reduceIte, Nat.reduceEqDiff, reduceCtorEq]; exact t5, by simp only [WS, ↓reduceIte, Nat.reduceEqDiff, reduceCtorEq]; exact t7, by simp only [WS, ↓reduceIte, Nat.reduceEqDiff, reduceCtorEq]; exact t9, B.trans (D.mono hBw), z7, 0, R, by simp only [WS, ↓reduceIte, Nat.reduceEqDiff, reduceCtorEq]; rfl, by omega, hM7, fun y hy => by rw [if_neg (Nat.not_lt_zero _)], ov⟩ ?_
  clear t0 t6 t4 t5 t7 t9 t10 t12 ov hM7 D
  rintro t w8 ⟨t0, t6, t4, t5, t7, t9, E, z8, j, Rc, t13, hj, hM8, hRc, ov⟩
  by_cases hji : j < i
  · have ih : j < hs.length := by rw [hM.lh]; exact hji
    obtain ⟨bj, hbj, -⟩ := (hM.row j ih).sl.blk_lt (ne_nil_of (i := 0) (by rw [hM.len j hji]; omega))
    have hbj2 := lt3 j ih bj hbj
    have eRc : Rc j = R j := by rw [hRc j hji, if_neg (Nat.lt_irrefl _)]
    have lRj := hM.len j hji
    have iqR : q < (R j).length := by omega
    simp (maxSteps := 1000000) (disch := omega) only [WS, ↓reduceIte, Nat.reduceEqDiff, reduceCtorEq, AS, t0, t6, t4, t5, t7, t9, t13, hM8.top.sl.Xlen, lhs]
    refine WP_dops ?_
    have bd := bel_drew w8
    have E := E.trans (bd.mono E.size)
    have ov := ov.up bd
    have hM9 := hM8.up bd
    have z8 := Nat.le_trans z8 bd.size
    have zE := E.size
    clear bd hM8
    have rj := hM9.row j ih
    rw [eRc] at rj
    simp (maxSteps := 1000000) (disch := omega) only [ES, List.mem_cons, List.not_mem_nil, implies_true, forall_const, WS, ↓reduceIte, Nat.reduceEqDiff, reduceCtorEq, AS, t0, t6, t4, t5, t7, t9, t13, hM9.top.sl.Eix ih, hM9.top.sl.Eld ih, rj.sl.Eix iqR, rj.sl.Eld iqR, cell_e8]
    refine E_call0 ((culletref10_less_spec w8.drew w.heap.size (Cell.v hs[j]) sv (R j) S (R j)[q] bj rj hbj ov.sl (fun e => by rw [hbv] at e; cases e; omega) (by omega) (by omega) zE).mono ?_)
    rintro _ w9 ⟨o9, hk, hB9⟩
    have E := E.trans hB9
    have z9 := hk.1
    have ov9 := hk.ow ov fun c hc => by rw [hbv] at hc; cases hc; omega
    have hM10 := hM9.put ih hbj hk (by rw [lesL_len]; exact lRj) o9
    simp (maxSteps := 1000000) (disch := omega) only [ES, List.mem_cons, List.not_mem_nil, implies_true, forall_const, WS, ↓reduceIte, Nat.reduceEqDiff, reduceCtorEq, AS, t0, t6, t4, t5, t7, t9, t13]
    refine ⟨⟨E, by omega, j + 1, _, rfl, by omega, hM10, fun y hy => ?_, ov9⟩, by omega⟩
    by_cases e : y = j
    · subst e
      simp only [if_true]
      rw [if_pos (by omega), nth_get iqR]
    · simp only [if_neg e]
      rw [hRc y hy]
      by_cases e2 : y < j
      · rw [if_pos e2, if_pos (by omega)]
      · rw [if_neg e2, if_neg (by omega)]
  obtain rfl : j = i := by omega
  have hcv : Cell.v (hd sv) = sv := ov.sl.hd.1
  have hbv8 : bv < w8.heap.size := (ov.blk bv hbv).2
  have lhs1 : hs.length ≤ 256 := by rw [hM.lh]; omega
  have lP1 : P.length ≤ 256 := by rw [hM.lp]; omega
  simp (maxSteps := 1000000) (disch := omega) only [WS, ↓reduceIte, Nat.reduceEqDiff, reduceCtorEq, AS, t0, t6, t4, t5, t7, t9, t13, hM8.top.sl.Xlen, lhs]
  have hfill : fillL (repL [Value.slice none 0 0] 1) [(0, 1, sv)] = some [sv] := by
    obtain ⟨a9, c9, e, -⟩ := ov.sl.sh
    rw [e]; rfl
  refine X_bsl (zs := [hd sv]) (by simp only [List.map_cons, List.map_nil, hcv]; exact hfill) (by rfl) fun e0 w9 oe hB => ?_
  have y9 := hB.size
  have hM9 := hM8.up hB
  have ov := ov.up hB
  have E := E.trans (hB.mono E.size)
  have z9 := Nat.le_trans z8 hB.size
  simp (maxSteps := 1000000) (disch := omega) only [WS, ↓reduceIte, Nat.reduceEqDiff, reduceCtorEq, AS, t0, t6, t4, t5, t7, t9, t13]
  refine Ow.Xapp hM9.top oe.sl E.size (by simp only [List.length_singleton, maxBytes]; omega) (by simp only [List.length_singleton]; omega) fun sr2 w10 otop hg hnr => ?_
  have E := Below.app E E.size hg fun c hc => (hM9.top.blk c hc).1
  have ov := ov.gr' hg fun c hc e => by rw [hbv] at e; cases e; have := lt1 bv hc; omega
  have opiv := hM9.piv.gr' hg fun c hc => hM9.tp c hc
  have orow := fun y (hy : y < hs.length) => (hM9.row y hy).gr' hg fun c hc e => hM9.rt y hy c e hc
  have z10 := Nat.le_trans z9 hg.size
  have y10 := Nat.le_trans y9 hg.size
  clear hB oe hg hM8
  simp (maxSteps := 1000000) (disch := omega) only [WS, ↓reduceIte, Nat.reduceEqDiff, reduceCtorEq, AS, t0, t6, t5, t7, t9, t13]
  refine X_bsl (zs := [(q : Int)]) (by rfl) (by rfl) fun e1 w11 oe hB => ?_
  have otop := otop.up hB
  have ov := ov.up hB
  have opiv := opiv.up hB
  have orow := fun y hy => (orow y hy).up hB
  have E := E.trans (hB.mono E.size)
  have z11 := Nat.le_trans z10 hB.size
  have y11 := Nat.le_trans y10 hB.size
  simp (maxSteps := 1000000) (disch := omega) only [WS, ↓reduceIte, Nat.reduceEqDiff, reduceCtorEq, AS, t0, t6, t5, t7, t9, t13]
  refine Ow.Xapp opiv oe.sl E.size (by simp only [List.length_singleton, maxBytes]; omega) (by simp only [List.length_singleton]; omega) fun sp2 w12 opiv2 hg hnp => ?_
  have hs2sp : ∀ c, Fw.blk sr2 = some c → Fw.blk sp ≠ some c := fun c hc e => by
    rcases hnr with h1 | h1
    · exact hM9.tp c (by rw [← h1]; exact hc) e
    · have := h1 c hc; have := lt2 c e; omega
  have E := Below.app E E.size hg fun c hc => (opiv.blk c hc).1
  have otop0 := otop
  have otop := otop.gr' hg fun c hc e => hs2sp c e hc
  have ov := ov.gr' hg fun c hc e => by rw [hbv] at e; cases e; have := lt2 bv hc; omega
  have orow := fun y (hy : y < hs.length) => (orow y hy).gr' hg fun c hc e => hM9.rp y hy c e hc
  have nbv : ∀ y (hy : y < hs.length) c, Fw.blk (Cell.v hs[y]) = some c → c < w1.heap.size := lt3
  have z910 := z10
  have hrt2 : ∀ y (hy : y < hs.length) c, Fw.blk (Cell.v hs[y]) = some c → Fw.blk sr2 ≠ some c := fun y hy c hc e => by
    rcases hnr with h1 | h1
    · exact hM9.rt y hy c hc (by rw [← h1]; exact e)
    · have := h1 c e; have := lt3 y hy c hc; omega
  have hrp2 : ∀ y (hy : y < hs.length) c, Fw.blk (Cell.v hs[y]) = some c → Fw.blk sp2 ≠ some c := fun y hy c hc e => by
    rcases hnp with h1 | h1
    · exact hM9.rp y hy c hc (by rw [← h1]; exact e)
    · have := h1 c e; have := lt3 y hy c hc; omega
  have hvt2 : Fw.blk sr2 ≠ some bv := fun e => by
    rcases hnr with h1 | h1
    · have := lt1 bv (by rw [← h1]; exact e); omega
    · have := h1 bv e
      have h8 : bv < w8.heap.size := hbv8
      omega
  have hvp2 : Fw.blk sp2 ≠ some bv := fun e => by
    rcases hnp with h1 | h1
    · have := lt2 bv (by rw [← h1]; exact e); omega
    · have := h1 bv e
      have h8 : bv < w8.heap.size := hbv8
      omega
  have htp2 : ∀ c, Fw.blk sr2 = some c → Fw.blk sp2 ≠ some c := fun c hc e => by
    rcases hnp with h1 | h1
    · exact hs2sp c hc (by rw [← h1]; exact e)
    · have := h1 c e; have := (otop0.blk c hc).2; omega
  have hget : ∀ y (hy : y < (hs ++ [hd sv]).length), (y < hs.length ∧ ∃ h : y < hs.length, (hs ++ [hd sv])[y] = hs[y]) ∨ (y = j ∧ Cell.v (hs ++ [hd sv])[y] = sv) := fun y hy => by
    by_cases e : y < hs.length
    · exact Or.inl ⟨e, e, List.getElem_append_left e⟩
    · have ey : y = hs.length := by rw [List.length_append, List.length_singleton] at hy; omega
      refine Or.inr ⟨by rw [ey, hM.lh], ?_⟩
      subst ey
      rw [List.getElem_concat_length rfl, hcv]
  have hMn : RdM w.heap.size w12 sr2 sp2 (hs ++ [hd sv]) (P ++ [(q : Int)]) (fun y => if y = j then S else Rc y) (j + 1) x := by
    refine ⟨otop, opiv2, by rw [List.length_append, hM.lh]; rfl, by rw [List.length_append, hM.lp]; rfl, fun y hy => ?_, fun y hy => ?_, fun a c ha hc b hne hb => ?_, fun y hy c hc => ?_, fun y hy c hc => ?_, htp2⟩
    · rcases hget y hy with ⟨h1, h2, h3⟩ | ⟨h1, h2⟩
      · rw [h3, if_neg (by rw [hM.lh] at h1; omega)]
        exact orow y h1
      · rw [h2, if_pos h1]
        exact ov.mono hBw
    · by_cases e : y = j
      · simp only [if_pos e]; exact lS
      · simp only [if_neg e]; rw [hM9.len y (by omega)]
    · rcases hget a ha with ⟨h1, h2, h3⟩ | ⟨h1, h2⟩
      · rw [h3] at hb
        rcases hget c hc with ⟨k1, k2, k3⟩ | ⟨k1, k2⟩
        · rw [k3]; exact hM9.two a c h1 k1 b hne hb
        · rw [k2, hbv]; intro e; cases e; have := lt3 a h1 bv hb; omega
      · rw [h2, hbv] at hb
        cases hb
        rcases hget c hc with ⟨k1, k2, k3⟩ | ⟨k1, k2⟩
        · rw [k3]; intro e; have := lt3 c k1 bv e; omega
        · exact absurd (h1.trans k1.symm) hne
    · rcases hget y hy with ⟨h1, h2, h3⟩ | ⟨h1, h2⟩
      · rw [h3] at hc; exact hrt2 y h1 c hc
      · rw [h2, hbv] at hc; cases hc; exact hvt2
    · rcases hget y hy with ⟨h1, h2, h3⟩ | ⟨h1, h2⟩
      · rw [h3] at hc; exact hrp2 y h1 c hc
      · rw [h2, hbv] at hc; cases hc; exact hvp2
  have hRn : Red (fun i => nth (LA i)) (r + 1) x (fun i => nth (if i = j then S else Rc i)) (fun i => if i = j then q else p i) (j + 1) := (hR.next hqC hdv).congr (fun y hy c hc => by
    by_cases e : y = j
    · simp only [if_pos e]; exact hSv c hc
    · simp only [if_neg e]
      rw [hRc y (by omega), if_pos (by omega), lesL_nth (by rw [hM.len y (by omega)]; exact hc), hSv c hc]) fun y hy => rfl
  have hPn : ∀ y (hy : y < (P ++ [(q : Int)]).length), (P ++ [(q : Int)])[y] = (((fun i => if i = j then q else p i) y : Nat) : Int) := fun y hy => by
    by_cases e : y < P.length
    · rw [List.getElem_append_left e, hP y e]
      simp only [if_neg (show y ≠ j by rw [hM.lp] at e; omega)]
    · have ey : y = P.length := by rw [List.length_append, List.length_singleton] at hy; omega
      subst ey
      rw [List.getElem_concat_length rfl]
      simp only [if_pos hM.lp]
  have ln1 : (((hs ++ [hd sv]).length : Nat) : Int) = (j : Int) + 1 := by rw [hMn.lh]; rfl
  have ej1 : IntKind.i64.wrap ((j : Int) + 1 - 1) = (j : Int) := by rw [wrap_id (by omega) (by omega)]; omega
  simp (maxSteps := 1000000) (disch := omega) only [WS, ↓reduceIte, Nat.reduceEqDiff, reduceCtorEq, AS, t0, t6, t7, t9, t13, otop.sl.Xlen, ln1, ej1]
  have hsort0 : (∀ a c, a < c → c < j + 1 → a ≠ j → c ≠ j → (fun i => if i = j then q else p i) a < (fun i => if i = j then q else p i) c) ∧ (∀ c, j < c → c < j + 1 → (fun i => if i = j then q else p i) j < (fun i => if i = j then q else p i) c) := by
    refine ⟨fun a c hac hc ha hcj => ?_, fun c h1 h2 => by omega⟩
    simp only [if_neg ha, if_neg hcj]
    exact hsrt a c hac (by omega)
  generalize hgen : (fun i => if i = j then q else p i) = pn at hRn hPn hsort0
  generalize hgen2 : (fun y => if y = j then S else Rc y) = Rn at hMn
  have hRn : Red (fun i => nth (LA i)) (r + 1) x (fun i => nth (Rn i)) pn (j + 1) := by rw [← hgen2]; exact hRn
  refine loop_of (fun t w' => t 0 = s ∧ t 6 = .int .i64 (r : Int) ∧ t 4 = sr2 ∧ t 5 = sp2 ∧ RowKit.Below w.heap.size w w' ∧ ∃ (y : Nat) (hx : List Hd) (Px : List Int) (Rx : Nat → List (El 8)) (px : Nat → Nat), t 14 = .int .i64 (y : Int) ∧ y ≤ j ∧ RdM w.heap.size w' sr2 sp2 hx Px Rx (j + 1) x ∧ Red (fun i => nth (LA i)) (r + 1) x (fun i => nth (Rx i)) px (j + 1) ∧ (∀ z (hz : z < Px.length), Px[z] = (px z : Int)) ∧ (∀ a c, a < c → c < j + 1 → a ≠ y → c ≠ y → px a < px c) ∧ (∀ c, y < c → c < j + 1 → px y < px c)) (fun t _ => (toI (t 14)).toNat)
    ⟨by simp only [WS, ↓reduceIte, Nat.reduceEqDiff, reduceCtorEq]; exact t0, by simp only [WS, ↓reduceIte, Nat.reduceEqDiff, reduceCtorEq]; exact t6, by simp only [WS, ↓reduceIte, Nat.reduceEqDiff, reduceCtorEq], by simp only [WS, ↓reduceIte, Nat.reduceEqDiff, reduceCtorEq], E, j, _, _, Rn, pn, by simp only [WS, ↓reduceIte, Nat.reduceEqDiff, reduceCtorEq], Nat.le_refl _, hMn, hRn, hPn, hsort0.1, hsort0.2⟩ ?_
  clear t0 t6 t7 t9 t13
  rintro t w13 ⟨t0, t6, t4, t5, E, y, hx, Px, Rx, px, t14, hy, hMx, hRx, hPx, hs1, hs2⟩
  have lhx := hMx.lh
  have lPx := hMx.lp
  rcases y with _ | y
  · simp (maxSteps := 1000000) (disch := omega) only [WS, ↓reduceIte, Nat.reduceEqDiff, reduceCtorEq, AS]
    refine WP_dops ?_
    have bd := bel_drew w13
    simp (maxSteps := 1000000) (disch := omega) only [ES, List.mem_cons, List.not_mem_nil, implies_true, forall_const, WS, ↓reduceIte, Nat.reduceEqDiff, reduceCtorEq, AS, t0, t6, t4, t5, t14]
    refine ⟨⟨E.trans (bd.mono E.size), r + 1, sr2, sp2, hx, Px, Rx, px, j + 1, rfl, by omega, rfl, rfl, hMx.up bd, hRx, hPx, fun a c hac hc => ?_, by omega⟩, by omega⟩
    by_cases ea : a = 0
    · rw [ea]; exact hs2 c (by omega) hc
    · exact hs1 a c hac hc ea (by omega)
  have e1 : IntKind.i64.wrap (((y + 1 : Nat) : Int) - 1) = (y : Int) := by rw [wrap_id (by omega) (by omega)]; omega
  have ip0 : y < Px.length := by omega
  have ip1 : y + 1 < Px.length := by omega
  have ih0 : y < hx.length := by omega
  have ih1 : y + 1 < hx.length := by omega
  have ep0 := hPx y ip0
  have ep1 := hPx (y + 1) ip1
  simp (maxSteps := 1000000) (disch := omega) only [WS, ↓reduceIte, Nat.reduceEqDiff, reduceCtorEq, AS]
  refine WP_dops ?_
  have bd := bel_drew w13
  have E := E.trans (bd.mono E.size)
  have hMx := hMx.up bd
  clear bd
  by_cases hlt : px (y + 1) < px y
  rotate_left
  · simp (maxSteps := 1000000) (disch := omega) only [ES, List.mem_cons, List.not_mem_nil, implies_true, forall_const, WS, ↓reduceIte, Nat.reduceEqDiff, reduceCtorEq, AS, t0, t6, t4, t5, t14, hMx.piv.sl.Eix ip1, hMx.piv.sl.Eld ip1, cell_int, ep1, e1, hMx.piv.sl.Eix ip0, hMx.piv.sl.Eld ip0, ep0]
    have hne : px y ≠ px (y + 1) := fun e => by have := hRx.inj (by omega) (by omega) e; omega
    refine ⟨⟨E, r + 1, sr2, sp2, hx, Px, Rx, px, j + 1, rfl, by omega, rfl, rfl, hMx, hRx, hPx, fun a c hac hc => ?_, by omega⟩, by omega⟩
    by_cases ea : a = y + 1
    · rw [ea]; exact hs2 c (by omega) hc
    · by_cases ec : c = y + 1
      · rw [ec]
        by_cases ea2 : a = y
        · rw [ea2]; omega
        · have := hs1 a y (by omega) (by omega) ea (by omega)
          omega
      · exact hs1 a c hac hc ea ec
  simp (maxSteps := 1000000) (disch := omega) only [ES, List.mem_cons, List.not_mem_nil, implies_true, forall_const, WS, ↓reduceIte, Nat.reduceEqDiff, reduceCtorEq, AS, t0, t6, t4, t5, t14, hMx.piv.sl.Eix ip1, hMx.piv.sl.Eld ip1, cell_int, ep1, e1, hMx.piv.sl.Eix ip0, hMx.piv.sl.Eld ip0, ep0]
  refine WP_dops ?_
  have bd := bel_drew w13.drew
  have E := E.trans (bd.mono E.size)
  have hMx := hMx.up bd
  clear bd
  simp (maxSteps := 1000000) (disch := omega) only [ES, List.mem_cons, List.not_mem_nil, implies_true, forall_const, WS, ↓reduceIte, Nat.reduceEqDiff, reduceCtorEq, AS, t0, t6, t4, t5, t14, e1, hMx.top.sl.Eix ih0, hMx.top.sl.Eld ih0, hMx.top.sl.Eix ih1, hMx.top.sl.Eld ih1]
  refine Ow.Est hMx.top ih1 hx[y] fun w14 ot1 hg1 => ?_
  have E := Below.app E E.size hg1 fun c hc => (hMx.top.blk c hc).1
  have op1 := hMx.piv.gr' hg1 fun c hc => hMx.tp c hc
  have or1 := fun z (hz : z < hx.length) => (hMx.row z hz).gr' hg1 fun c hc e => hMx.rt z hz c e hc
  have ih0' : y < (hx.set (y + 1) hx[y]).length := by rw [List.length_set]; exact ih0
  simp (maxSteps := 1000000) (disch := omega) only [ES, List.mem_cons, List.not_mem_nil, implies_true, forall_const, WS, ↓reduceIte, Nat.reduceEqDiff, reduceCtorEq, AS, t0, t6, t4, t5, t14, e1, ot1.sl.Eix ih0']
  refine Ow.Est ot1 ih0' hx[y + 1] fun w15 ot2 hg2 => ?_
  have E := Below.app E E.size hg2 fun c hc => (ot1.blk c hc).1
  have op2 := op1.gr' hg2 fun c hc => hMx.tp c hc
  have or2 := fun z (hz : z < hx.length) => (or1 z hz).gr' hg2 fun c hc e => hMx.rt z hz c e hc
  simp (maxSteps := 1000000) (disch := omega) only [ES, List.mem_cons, List.not_mem_nil, implies_true, forall_const, WS, ↓reduceIte, Nat.reduceEqDiff, reduceCtorEq, AS, t0, t6, t4, t5, t14]
  refine WP_dops ?_
  have bd := bel_drew w15
  have E := E.trans (bd.mono E.size)
  have ot2 := ot2.up bd
  have op2 := op2.up bd
  have or2 := fun z hz => (or2 z hz).up bd
  clear bd
  simp (maxSteps := 1000000) (disch := omega) only [ES, List.mem_cons, List.not_mem_nil, implies_true, forall_const, WS, ↓reduceIte, Nat.reduceEqDiff, reduceCtorEq, AS, t0, t6, t4, t5, t14, e1, op2.sl.Eix ip0, op2.sl.Eld ip0, op2.sl.Eix ip1, op2.sl.Eld ip1]
  refine Ow.Est op2 ip1 Px[y] fun w16 op3 hg3 => ?_
  have E := Below.app E E.size hg3 fun c hc => (op2.blk c hc).1
  have ot3 := ot2.gr' hg3 fun c hc e => hMx.tp c e hc
  have or3 := fun z (hz : z < hx.length) => (or2 z hz).gr' hg3 fun c hc e => hMx.rp z hz c e hc
  have ip0' : y < (Px.set (y + 1) Px[y]).length := by rw [List.length_set]; exact ip0
  simp (maxSteps := 1000000) (disch := omega) only [ES, List.mem_cons, List.not_mem_nil, implies_true, forall_const, WS, ↓reduceIte, Nat.reduceEqDiff, reduceCtorEq, AS, t0, t6, t4, t5, t14, e1, op3.sl.Eix ip0']
  refine Ow.Est op3 ip0' Px[y + 1] fun w17 op4 hg4 => ?_
  have E := Below.app E E.size hg4 fun c hc => (op3.blk c hc).1
  have ot4 := ot3.gr' hg4 fun c hc e => hMx.tp c e hc
  have or4 := fun z (hz : z < hx.length) => (or3 z hz).gr' hg4 fun c hc e => hMx.rp z hz c e hc
  have hMy := hMx.swap (by omega) ih0 ih1 ip0 ip1 ot4 op4 or4
  simp (maxSteps := 1000000) (disch := omega) only [ES, List.mem_cons, List.not_mem_nil, implies_true, forall_const, WS, ↓reduceIte, Nat.reduceEqDiff, reduceCtorEq, AS, t0, t6, t4, t5, t14, e1]
  refine ⟨⟨E, y, _, _, _, fun i => px (sw y (y + 1) i), rfl, by omega, hMy, hRx.swap (by omega) (by omega), fun z hz => ?_, fun a c hac hc ha hcy => ?_, fun c h1 hc => ?_⟩, by omega⟩
  · rw [swap_get ip0 ip1 hz (sw_lt ip1 (by rw [List.length_set, List.length_set] at hz; exact hz))]
    exact hPx _ _
  · have hsa : sw y (y + 1) a = if a = y + 1 then y else a := by unfold sw; rw [if_neg ha]
    have hsc : sw y (y + 1) c = if c = y + 1 then y else c := by unfold sw; rw [if_neg hcy]
    show px (sw y (y + 1) a) < px (sw y (y + 1) c)
    rw [hsa, hsc]
    by_cases ea : a = y + 1
    · rw [if_pos ea, if_neg (by omega)]
      exact hs1 y c (by omega) hc (by omega) (by omega)
    · rw [if_neg ea]
      by_cases ec : c = y + 1
      · rw [if_pos ec]
        exact hs1 a y (by omega) (by omega) ea (by omega)
      · rw [if_neg ec]
        exact hs1 a c hac hc ea ec
  · have hsy : sw y (y + 1) y = y + 1 := by unfold sw; rw [if_pos rfl]
    have hsc : sw y (y + 1) c = if c = y + 1 then y else c := by unfold sw; rw [if_neg (by omega)]
    show px (sw y (y + 1) y) < px (sw y (y + 1) c)
    rw [hsy, hsc]
    by_cases ec : c = y + 1
    · rw [if_pos ec]; exact hlt
    · rw [if_neg ec]; exact hs2 c (by omega) hc
end Go.Proofs.Ytbaljbadlfopgaa.Fw

set_option linter.unusedVariables false
set_option linter.unusedSimpArgs false
set_option maxRecDepth 100000
set_option maxHeartbeats 1000000
namespace Go.Proofs.Ytbaljbadlfopgaa.Fw
open Go Go.Fw Go.Proofs
attribute [local irreducible] stepI
def c_culletref10_Null : C := .seq (.ops [⟨0,some 2,none,.mov (.c (.slice none 0 0)),[]⟩,⟨1,some 3,none,.mov (.c (.int .i64 0)),[]⟩]) (.seq (.seq (.ops [⟨0,some 11,none,.mov (.t 0),[]⟩,⟨1,some 12,none,.call (.c (.func (.func 153) #[] #[])) [.t 11],[]⟩,⟨2,some 13,none,.bin .neq (.t 12) (.c (.int .i64 0)),[]⟩]) (.ite (.t 13) (.seq (.ops [⟨0,some 2,none,.mov (.c (.slice none 0 0)),[]⟩,⟨1,some 3,none,.mov (.c (.int .i64 100)),[]⟩]) .ret) .skip)) (.seq (.ops [⟨0,some 15,none,.mov (.t 0),[]⟩,⟨1,some 16,none,.call (.c (.func (.func 154) #[] #[])) [.t 15],[]⟩,⟨2,some 14,none,.mov (.t 16),[]⟩,⟨3,some 17,none,.ext (.t 14) 0,[]⟩,⟨4,some 18,none,.ext (.t 14) 1,[]⟩,⟨5,some 4,none,.mov (.t 17),[]⟩,⟨6,some 5,none,.mov (.t 18),[]⟩]) (.seq (.ops [⟨0,some 6,none,.mov (.c (.slice none 0 0)),[]⟩]) (.seq (.ops [⟨0,some 7,none,.mov (.c (.int .i64 0)),[]⟩]) (.seq (.seq (.ops [⟨0,some 8,none,.mov (.c (.int .i64 0)),[]⟩]) (.block 0 (.loop (.seq (.seq (.ops [⟨0,some 19,none,.mov (.t 8),[]⟩,⟨1,some 20,none,.mov (.t 0),[]⟩,⟨2,some 21,none,.ixs 1 (.t 20) (.c (.int .i64 0)),[]⟩,⟨3,some 22,none,.ld (.t 21),[]⟩,⟨4,some 23,none,.len (.t 22),[]⟩,⟨5,some 24,none,.bin .lss (.t 19) (.t 23),[]⟩]) (.ite (.t 24) .skip (.exit 0))) (.seq (.block 1 (.seq (.seq (.ops [⟨0,some 27,none,.mov (.t 7),[]⟩,⟨1,some 28,none,.mov (.t 5),[]⟩,⟨2,some 29,none,.len (.t 28),[]⟩,⟨3,some 30,none,.bin .lss (.t 27) (.t 29),[]⟩,⟨4,some 31,none,.mov (.t 30),[]⟩,⟨5,some 32,(some (31,true)),.mov (.t 5),[]⟩,⟨6,some 33,(some (31,true)),.mov (.t 7),[]⟩,⟨7,some 34,(some (31,true)),.ixs 1 (.t 32) (.t 33),[]⟩,⟨8,some 35,(some (31,true)),.ld (.t 34),[]⟩,⟨9,some 36,(some (31,true)),.mov (.t 8),[]⟩,⟨10,some 37,(some (31,true)),.bin .eql (.t 35) (.t 36),[]⟩,⟨11,some 38,none,.pick (.t 31) (.t 37) (.c (.bool false)),[]⟩]) (.ite (.t 38) (.seq (.ops [⟨0,some 39,none,.mov (.t 7),[]⟩,⟨1,some 40,none,.bin .add (.t 39) (.c (.int .i64 1)),[]⟩,⟨2,some 7,none,.mov (.t 40),[]⟩]) (.exit 1)) .skip)) (.seq (.ops [⟨0,some 41,none,.mov (.t 0),[]⟩,⟨1,some 42,none,.ixs 1 (.t 41) (.c (.int .i64 0)),[]⟩,⟨2,some 43,none,.ld (.t 42),[]⟩,⟨3,some 44,none,.len (.t 43),[]⟩,⟨4,some 45,none,.mks 5 1 [.int .u8 0] (.t 44) (.t 44),[]⟩,⟨5,some 9,none,.mov (.t 45),[]⟩]) (.seq (.ops [⟨0,some 46,none,.mov (.t 9),[]⟩,⟨1,some 47,none,.mov (.t 8),[]⟩,⟨2,some 48,none,.ixs 1 (.t 46) (.t 47),[]⟩,⟨3,none,none,.st (.t 48) (.c (.int .u8 1)),[]⟩]) (.seq (.seq (.ops [⟨0,some 10,none,.mov (.c (.int .i64 0)),[]⟩]) (.block 2 (.loop (.seq (.seq (.ops [⟨0,some 49,none,.mov (.t 10),[]⟩,⟨1,some 50,none,.mov (.t 4),[]⟩,⟨2,some 51,none,.len (.t 50),[]⟩,⟨3,some 52,none,.bin .lss (.t 49) (.t 51),[]⟩]) (.ite (.t 52) .skip (.exit 2))) (.seq (.block 3 (.dops [⟨0,some 55,none,.mov (.t 9),[]⟩,⟨1,some 56,none,.mov (.t 5),[]⟩,⟨2,some 57,none,.mov (.t 10),[]⟩,⟨3,some 58,none,.ixs 1 (.t 56) (.t 57),[]⟩,⟨4,some 59,none,.ld (.t 58),[]⟩,⟨5,some 60,none,.mov (.t 4),[]⟩,⟨6,some 61,none,.mov (.t 10),[]⟩,⟨7,some 62,none,.ixs 1 (.t 60) (.t 61),[]⟩,⟨8,some 63,none,.ld (.t 62),[]⟩,⟨9,some 64,none,.mov (.t 8),[]⟩,⟨10,some 65,none,.ixs 1 (.t 63) (.t 64),[]⟩,⟨11,some 66,none,.ld (.t 65),[]⟩,⟨12,some 67,none,.ixs 1 (.t 55) (.t 59),[]⟩,⟨13,none,none,.st (.t 67) (.t 66),[]⟩])) (.ops [⟨0,some 53,none,.mov (.t 10),[]⟩,⟨1,some 54,none,.bin .add (.t 53) (.c (.int .i64 1)),[]⟩,⟨2,some 10,none,.mov (.t 54),[]⟩])))))) (.ops [⟨0,some 68,none,.mov (.t 6),[]⟩,⟨1,some 69,none,.mov (.t 9),[]⟩,⟨2,some 70,none,.bsl 25 1 [.slice none 0 0] [(0,(1,.t 69))],[]⟩,⟨3,some 71,none,.app 25 24 [.slice none 0 0] (.t 68) (.t 70),[]⟩,⟨4,some 6,none,.mov (.t 71),[]⟩])))))) (.ops [⟨0,some 25,none,.mov (.t 8),[]⟩,⟨1,some 26,none,.bin .add (.t 25) (.c (.int .i64 1)),[]⟩,⟨2,some 8,none,.mov (.t 26),[]⟩])))))) (.seq (.ops [⟨0,some 72,none,.mov (.t 6),[]⟩,⟨1,some 2,none,.mov (.t 72),[]⟩,⟨2,some 3,none,.mov (.c (.int .i64 0)),[]⟩]) .ret))))))
attribute [irreducible] c_culletref10_Null
theorem run_culletref10_Null {args : List Value} {w : World} {K : Value → World → Prop} (hn : args.length ≤ 73) (h : WP Try.prog c_culletref10_Null (endQ [.t 2, .t 3] K) (initT args) w) : CallV Try.prog 123 args w K :=
  call_of follows Try.func123 (by kernel_rfl) (by kernel_rfl) hn h
def c_culletref10_Check : C := .seq (.ops [⟨0,some 2,none,.mov (.c (.int .i64 0)),[]⟩]) (.seq (.seq (.ops [⟨0,some 4,none,.mov (.t 0),[]⟩,⟨1,some 5,none,.len (.t 4),[]⟩,⟨2,some 6,none,.bin .lss (.t 5) (.c (.int .i64 1)),[]⟩,⟨3,some 7,none,.mov (.t 6),[]⟩,⟨4,some 8,(some (7,false)),.mov (.t 0),[]⟩,⟨5,some 9,(some (7,false)),.len (.t 8),[]⟩,⟨6,some 10,(some (7,false)),.bin .gtr (.t 9) (.c (.int .i64 256)),[]⟩,⟨7,some 11,none,.pick (.t 7) (.c (.bool true)) (.t 10),[]⟩,⟨8,some 12,none,.mov (.t 11),[]⟩,⟨9,some 13,(some (12,false)),.mov (.t 0),[]⟩,⟨10,some 14,(some (12,false)),.ixs 1 (.t 13) (.c (.int .i64 0)),[]⟩,⟨11,some 15,(some (12,false)),.ld (.t 14),[]⟩,⟨12,some 16,(some (12,false)),.len (.t 15),[]⟩,⟨13,some 17,(some (12,false)),.bin .lss (.t 16) (.c (.int .i64 1)),[]⟩,⟨14,some 18,none,.pick (.t 12) (.c (.bool true)) (.t 17),[]⟩,⟨15,some 19,none,.mov (.t 18),[]⟩,⟨16,some 20,(some (19,false)),.mov (.t 0),[]⟩,⟨17,some 21,(some (19,false)),.ixs 1 (.t 20) (.c (.int .i64 0)),[]⟩,⟨18,some 22,(some (19,false)),.ld (.t 21),[]⟩,⟨19,some 23,(some (19,false)),.len (.t 22),[]⟩,⟨20,some 24,(some (19,false)),.bin .gtr (.t 23) (.c (.int .i64 512)),[]⟩,⟨21,some 25,none,.pick (.t 19) (.c (.bool true)) (.t 24),[]⟩]) (.ite (.t 25) (.seq (.ops [⟨0,some 2,none,.mov (.c (.int .i64 100)),[]⟩]) .ret) .skip)) (.seq (.seq (.ops [⟨0,some 3,none,.mov (.c (.int .i64 0)),[]⟩]) (.block 0 (.loop (.seq (.seq (.ops [⟨0,some 26,none,.mov (.t 3),[]⟩,⟨1,some 27,none,.mov (.t 0),[]⟩,⟨2,some 28,none,.len (.t 27),[]⟩,⟨3,some 29,none,.bin .lss (.t 26) (.t 28),[]⟩]) (.ite (.t 29) .skip (.exit 0))) (.seq (.block 1 (.seq (.dops [⟨0,some 32,none,.mov (.t 0),[]⟩,⟨1,some 33,none,.mov (.t 3),[]⟩,⟨2,some 34,none,.ixs 1 (.t 32) (.t 33),[]⟩,⟨3,some 35,none,.ld (.t 34),[]⟩,⟨4,some 36,none,.len (.t 35),[]⟩,⟨5,some 37,none,.mov (.t 0),[]⟩,⟨6,some 38,none,.ixs 1 (.t 37) (.c (.int .i64 0)),[]⟩,⟨7,some 39,none,.ld (.t 38),[]⟩,⟨8,some 40,none,.len (.t 39),[]⟩,⟨9,some 41,none,.bin .neq (.t 36) (.t 40),[]⟩]) (.ite (.t 41) (.seq (.ops [⟨0,some 2,none,.mov (.c (.int .i64 100)),[]⟩]) .ret) .skip))) (.ops [⟨0,some 30,none,.mov (.t 3),[]⟩,⟨1,some 31,none,.bin .add (.t 30) (.c (.int .i64 1)),[]⟩,⟨2,some 3,none,.mov (.t 31),[]⟩])))))) (.seq (.ops [⟨0,some 2,none,.mov (.c (.int .i64 0)),[]⟩]) .ret)))
attribute [irreducible] c_culletref10_Check
theorem run_culletref10_Check {args : List Value} {w : World} {K : Value → World → Prop} (hn : args.length ≤ 42) (h : WP Try.prog c_culletref10_Check (endQ [.t 2] K) (initT args) w) : CallV Try.prog 153 args w K :=
  call_of follows Try.func153 (by kernel_rfl) (by kernel_rfl) hn h
end Go.Proofs.Ytbaljbadlfopgaa.Fw
namespace Go.Proofs.Ytbaljbadlfopgaa.Fw
open Go Go.Fw
theorem culletref10_Check_spec (w : World) (s : Value) (hA : List Hd) (LA : Nat → List (El 8)) (C : Nat) (h : Sl w s hA) (hr : ∀ j (hj : j < hA.length), Sl w (Cell.v hA[j]) (LA j)) (hl : ∀ j, j < hA.length → (LA j).length = C) (hn1 : 1 ≤ hA.length) (hn : hA.length ≤ 256) (hC1 : 1 ≤ C) (hC : C ≤ 512) :
    CallV Try.prog 153 [s] w fun v w' => v = .int .i64 0 ∧ RowKit.Below w.heap.size w w' := by
  refine run_culletref10_Check (by simp) ?_
  simp only [c_culletref10_Check, WS, ↓reduceIte, Nat.reduceEqDiff, reduceCtorEq]
  have h0 : 0 < hA.length := hn1
  have r0 := hr 0 h0
  have l0 := hl 0 h0
  simp (maxSteps := 1000000) (disch := omega) only [WS, ↓reduceIte, Nat.reduceEqDiff, reduceCtorEq, AS, h.Xlen, h.Xix0 h0, h.Xld h0, r0.Xlen, l0]
  refine loop_of (fun t w' => t 0 = s ∧ RowKit.Below w.heap.size w w' ∧ ∃ i : Nat, t 3 = .int .i64 (i : Int) ∧ i ≤ hA.length) (fun t _ => hA.length - (toI (t 3)).toNat) ⟨by simp only [WS, ↓reduceIte, Nat.reduceEqDiff, reduceCtorEq], RowKit.Below.refl _ _, 0, by simp only [WS, ↓reduceIte, Nat.reduceEqDiff, reduceCtorEq]; rfl, by omega⟩ ?_
  rintro t w1 ⟨t0, B, i, t3, hi⟩
  have h1 := h.up B
  by_cases hil : i < hA.length
  rotate_left
  · simp (maxSteps := 1000000) (disch := omega) only [WS, ↓reduceIte, Nat.reduceEqDiff, reduceCtorEq, AS, t0, t3, h1.Xlen]
    exact B
  simp (maxSteps := 1000000) (disch := omega) only [WS, ↓reduceIte, Nat.reduceEqDiff, reduceCtorEq, AS, t0, t3, h1.Xlen]
  refine WP_dops ?_
  have bd := bel_drew w1
  have B := B.trans (bd.mono B.size)
  have h1 := h1.up bd
  have ri := (hr i hil).up B
  have r0 := r0.up B
  have li := hl i hil
  simp (maxSteps := 1000000) (disch := omega) only [ES, List.mem_cons, List.not_mem_nil, implies_true, forall_const, WS, ↓reduceIte, Nat.reduceEqDiff, reduceCtorEq, AS, t0, t3, h1.Eix hil, h1.Eld hil, h1.Eix0 h0, h1.Eld h0, ri.Elen, r0.Elen, li, l0, ne_eq, not_true_eq_false, decide_false]
  exact ⟨⟨B, i + 1, rfl, by omega⟩, by omega⟩
set_option maxHeartbeats 8000000 in
theorem culletref10_Null_spec (w : World) (s : Value) (hA : List Hd) (LA : Nat → List (El 8)) (C : Nat) (h : Sl w s hA) (hr : ∀ j (hj : j < hA.length), Sl w (Cell.v hA[j]) (LA j)) (hl : ∀ j, j < hA.length → (LA j).length = C) (hn1 : 1 ≤ hA.length) (hn : hA.length ≤ 256) (hC1 : 1 ≤ C) (hC : C ≤ 512) :
    CallV Try.prog 123 [s] w fun v w' => RowKit.Below w.heap.size w w' ∧ ∃ (sl : Value) (hv : List Hd), v = .tuple #[sl, .int .i64 0] ∧ Ow w.heap.size w' sl hv ∧
      ((hv = [] ∧ ∀ x : Nat → El 8, (∀ i, i < hA.length → dot C (nth (LA i)) x = 0) → ∀ c, c < C → x c = 0) ∨
       (∃ (h0 : 0 < hv.length) (v0 : List (El 8)), Sl w' (Cell.v hv[0]) v0 ∧ v0.length = C ∧ (∀ i, i < hA.length → dot C (nth (LA i)) (nth v0) = 0) ∧ ∃ c, c < C ∧ nth v0 c ≠ 0)) := by
  refine run_culletref10_Null (by simp) ?_
  simp only [c_culletref10_Null, WS, ↓reduceIte, Nat.reduceEqDiff, reduceCtorEq]
  refine X_call0 ((culletref10_Check_spec w s hA LA C h hr hl hn1 hn hC1 hC).mono ?_)
  rintro _ w1 ⟨rfl, B⟩
  have h := h.up B
  have hr := fun j hj => (hr j hj).up B
  simp (maxSteps := 1000000) (disch := omega) only [WS, ↓reduceIte, Nat.reduceEqDiff, reduceCtorEq, AS, show decide ((0 : Int) ≠ 0) = false from rfl]
  refine X_call0 ((culletref10_reduced_spec w1 s hA LA C h hr hl hn hC1 hC).mono ?_)
  rintro _ w2 ⟨hB, sr, sp, hs, P, R, p, m, rfl, hM, hR, hP, hsrt, hm⟩
  have hr := fun j hj => (hr j hj).up hB
  have h := h.up hB
  have B := B.trans (hB.mono B.size)
  clear hB
  have h0 : 0 < hA.length := hn1
  have r0 := hr 0 h0
  have l0 := hl 0 h0
  have lhs := hM.lh
  have lP := hM.lp
  have lPi : ((P.length : Nat) : Int) = (m : Int) := by rw [lP]
  have lhi : ((hs.length : Nat) : Int) = (m : Int) := by rw [lhs]
  simp (maxSteps := 1000000) (disch := omega) only [WS, ↓reduceIte, Nat.reduceEqDiff, reduceCtorEq, AS]
  refine loop_of (fun t w' => t 0 = s ∧ t 4 = sr ∧ t 5 = sp ∧ RowKit.Below w2.heap.size w2 w' ∧ ∃ (f a : Nat) (sl : Value) (hv : List Hd), t 8 = .int .i64 (f : Int) ∧ f ≤ C ∧ t 7 = .int .i64 (a : Int) ∧ a ≤ m ∧ (∀ i, i < a → p i < f) ∧ (∀ i, a ≤ i → i < m → f ≤ p i) ∧ t 6 = sl ∧ hv.length ≤ f ∧ Ow w2.heap.size w' sl hv ∧ ((hv = [] ∧ ∀ c, c < f → ∃ i, i < m ∧ p i = c) ∨ (∃ (h0 : 0 < hv.length) (v0 : List (El 8)), Ow w2.heap.size w' (Cell.v hv[0]) v0 ∧ (∀ c, Fw.blk (Cell.v hv[0]) = some c → Fw.blk sl ≠ some c) ∧ v0.length = C ∧ (∀ i, i < hA.length → dot C (nth (LA i)) (nth v0) = 0) ∧ ∃ c, c < C ∧ nth v0 c ≠ 0))) (fun t _ => C - (toI (t 8)).toNat)
    ⟨by simp only [WS, ↓reduceIte, Nat.reduceEqDiff, reduceCtorEq], by simp only [WS, ↓reduceIte, Nat.reduceEqDiff, reduceCtorEq], by simp only [WS, ↓reduceIte, Nat.reduceEqDiff, reduceCtorEq], RowKit.Below.refl _ _, 0, 0, .slice none 0 0, [], by simp only [WS, ↓reduceIte, Nat.reduceEqDiff, reduceCtorEq]; rfl, by omega, by simp only [WS, ↓reduceIte, Nat.reduceEqDiff, reduceCtorEq]; rfl, by omega, fun i hi => absurd hi (Nat.not_lt_zero _), fun i _ _ => Nat.zero_le _, by simp only [WS, ↓reduceIte, Nat.reduceEqDiff, reduceCtorEq], Nat.le_refl _, Ow.nil _ _, Or.inl ⟨rfl, fun c hc => absurd hc (Nat.not_lt_zero _)⟩⟩ ?_
  rintro t w3 ⟨t0, t4, t5, D, f, a, sl, hv, t8, hf, t7, ha, hpa, hpb, t6, hvf, ol, hres⟩
  have h3 := h.up D
  have r03 := r0.up D
  by_cases hfC : f < C
  rotate_left
  · obtain rfl : f = C := by omega
    simp (maxSteps := 1000000) (disch := omega) only [WS, ↓reduceIte, Nat.reduceEqDiff, reduceCtorEq, AS, t0, t4, t5, t8, t7, t6, h3.Xix0 h0, h3.Xld h0, r03.Xlen, l0]
    refine ⟨B.trans (D.mono B.size), sl, hv, rfl, ol.mono B.size, ?_⟩
    rcases hres with ⟨h1, h2⟩ | ⟨h1, v0, o0, -, l, hs0, hnz⟩
    · exact Or.inl ⟨h1, fun x hx => hR.full h2 hx⟩
    · exact Or.inr ⟨h1, v0, o0.sl, l, hs0, hnz⟩
  have hM3 := hM.up D
  by_cases hpf : ∃ ham : a < m, p a = f
  · obtain ⟨ham, hpf⟩ := hpf
    have iP : a < P.length := by omega
    have eP := hP a iP
    simp (maxSteps := 1000000) (disch := omega) only [WS, ↓reduceIte, Nat.reduceEqDiff, reduceCtorEq, AS, t0, t4, t5, t8, t7, t6, h3.Xix0 h0, h3.Xld h0, r03.Xlen, l0, hM3.piv.sl.Xlen, lPi, hM3.piv.sl.Xix iP, hM3.piv.sl.Xld iP, cell_int, eP, hpf, decide_eq_true rfl]
    refine ⟨⟨D, f + 1, a + 1, sl, hv, rfl, by omega, rfl, by omega, fun i hi => ?_, fun i hi him => ?_, rfl, by omega, ol, ?_⟩, by omega⟩
    · by_cases e : i = a
      · rw [e, hpf]; omega
      · have := hpa i (by omega); omega
    · have := hsrt a i (by omega) him
      omega
    · rcases hres with ⟨h1, h2⟩ | h1
      · refine Or.inl ⟨h1, fun c hc => ?_⟩
        by_cases e : c = f
        · exact ⟨a, ham, by rw [e]; exact hpf⟩
        · exact h2 c (by omega)
      · exact Or.inr h1
  have hnp : ∀ i, i < m → p i ≠ f := fun i hi e => by
    by_cases e2 : i < a
    · have := hpa i e2; omega
    · by_cases e3 : i = a
      · exact hpf ⟨by omega, by rw [← e3]; exact e⟩
      · have h1 := hsrt a i (by omega) hi
        have h2 := hpb a (Nat.le_refl _) (by omega)
        omega
  have t8o := t8
  rw [lZ42]
  refine WP_cut (fun t w' => w' = w3 ∧ t 0 = s ∧ t 4 = sr ∧ t 5 = sp ∧ t 6 = sl ∧ t 7 = .int .i64 (a : Int) ∧ t 8 = .int .i64 (f : Int)) ?_ fun t w' hQ => ?_
  · simp (maxSteps := 1000000) (disch := omega) only [WS, ↓reduceIte, Nat.reduceEqDiff, reduceCtorEq, AS, t0, t4, t5, t8, t7, t6, h3.Xix0 h0, h3.Xld h0, r03.Xlen, l0]
  clear t0 t4 t5 t6 t7 t8
  obtain ⟨rfl, t0, t4, t5, t6, t7, t8⟩ := hQ
  rw [lZ1, lZ42, lZ20, lZ42]
  refine WP_cut (fun t w2 => w2 = w' ∧ t 0 = s ∧ t 4 = sr ∧ t 5 = sp ∧ t 6 = sl ∧ t 7 = .int .i64 (a : Int) ∧ t 8 = .int .i64 (f : Int)) ?_ fun t w4 hQ => ?_
  · by_cases ham : a < m
    · have iP : a < P.length := by omega
      have eP := hP a iP
      have hne : ¬ (p a : Int) = (f : Int) := fun e => hpf ⟨ham, by omega⟩
      simp (maxSteps := 1000000) (disch := omega) only [WS, ↓reduceIte, Nat.reduceEqDiff, reduceCtorEq, AS, t0, t4, t5, t8, t7, t6, hM3.piv.sl.Xlen, lPi, hM3.piv.sl.Xix iP, hM3.piv.sl.Xld iP, cell_int, eP, decide_eq_false hne]
    · simp (maxSteps := 1000000) (disch := omega) only [WS, ↓reduceIte, Nat.reduceEqDiff, reduceCtorEq, AS, t0, t4, t5, t8, t7, t6, hM3.piv.sl.Xlen, lPi]
  clear t0 t4 t5 t6 t7 t8
  obtain ⟨rfl, t0, t4, t5, t6, t7, t8⟩ := hQ
  rw [lZ1]
  simp (maxSteps := 1000000) (disch := omega) only [WS, ↓reduceIte, Nat.reduceEqDiff, reduceCtorEq, AS, t0, t4, t5, t8, t7, t6, h3.Xix0 h0, h3.Xld h0, r03.Xlen, l0]
  refine X_mks (x := (0 : El 8)) (n := C) (by simp only [maxBytes]; omega) (by omega) fun sv w5 ov hB5 => ?_
  have i0f : f < (List.replicate C (0 : El 8)).length := by rw [List.length_replicate]; exact hfC
  simp (maxSteps := 1000000) (disch := omega) only [WS, ↓reduceIte, Nat.reduceEqDiff, reduceCtorEq, AS, t0, t4, t5, t8, t7, t6, ov.sl.Xix i0f]
  refine Ow.Xst ov i0f (1 : El 8) fun w6 ov6 hg => ?_
  have hB6 := Below.app hB5 hB5.size hg fun c hc => (ov.blk c hc).1
  have hv6 : ∀ c, nth ((List.replicate C (0 : El 8)).set f 1) c = if c = f then 1 else 0 := fun c => by rw [nth_set i0f, nth_rep]
  clear ov hB5 hg
  simp (maxSteps := 1000000) (disch := omega) only [WS, ↓reduceIte, Nat.reduceEqDiff, reduceCtorEq, AS, t0, t4, t5, t8, t7, t6]
  refine loop_of (fun t w' => t 0 = s ∧ t 4 = sr ∧ t 5 = sp ∧ t 6 = sl ∧ t 7 = .int .i64 (a : Int) ∧ t 8 = .int .i64 (f : Int) ∧ t 9 = sv ∧ RowKit.Below w4.heap.size w4 w' ∧ ∃ (y : Nat) (V : List (El 8)), t 10 = .int .i64 (y : Int) ∧ y ≤ m ∧ V.length = C ∧ nth V f = 1 ∧ (∀ i, i < y → nth V (p i) = nth (R i) f) ∧ (∀ c, c ≠ f → (∀ i, i < y → p i ≠ c) → nth V c = 0) ∧ Ow w4.heap.size w' sv V) (fun t _ => m - (toI (t 10)).toNat)
    ⟨by simp only [WS, ↓reduceIte, Nat.reduceEqDiff, reduceCtorEq]; exact t0, by simp only [WS, ↓reduceIte, Nat.reduceEqDiff, reduceCtorEq]; exact t4, by simp only [WS, ↓reduceIte, Nat.reduceEqDiff, reduceCtorEq]; exact t5, by simp only [WS, ↓reduceIte, Nat.reduceEqDiff, reduceCtorEq]; exact t6, by simp only [WS, ↓reduceIte, Nat.reduceEqDiff, reduceCtorEq]; exact t7, by simp only [WS, ↓reduceIte, Nat.reduceEqDiff, reduceCtorEq]; exact t8, by simp only [WS, ↓reduceIte, Nat.reduceEqDiff, reduceCtorEq], hB6, 0, _, by simp only [WS, ↓reduceIte, Nat.reduceEqDiff, reduceCtorEq]; rfl, by omega, by rw [List.length_set, List.length_replicate], by rw [hv6, if_pos rfl], fun i hi => absurd hi (Nat.not_lt_zero _), fun c hc _ => by rw [hv6, if_neg hc], ov6⟩ ?_
  clear t0 t4 t5 t6 t7 t8 ov6 hB6
  rintro t w7 ⟨t0, t4, t5, t6, t7, t8, t9, E, y, V, t10, hy, lV, hVf, hVp, hV0, ov⟩
  have hM7 := hM3.up E
  by_cases hym : y < m
  · have ih : y < hs.length := by omega
    have iP : y < P.length := by omega
    have eP := hP y iP
    have lRy := hM.len y hym
    have hpC := hR.pv y hym
    have iV : p y < V.length := by omega
    have iR : f < (R y).length := by omega
    simp (maxSteps := 1000000) (disch := omega) only [WS, ↓reduceIte, Nat.reduceEqDiff, reduceCtorEq, AS, t0, t4, t5, t8, t7, t6, t9, t10, hM7.top.sl.Xlen, lhi]
    refine WP_dops ?_
    have bd := bel_drew w7
    have E := E.trans (bd.mono E.size)
    have ov := ov.up bd
    have hM8 := hM7.up bd
    clear bd
    have ry := hM8.row y ih
    simp (maxSteps := 1000000) (disch := omega) only [ES, List.mem_cons, List.not_mem_nil, implies_true, forall_const, WS, ↓reduceIte, Nat.reduceEqDiff, reduceCtorEq, AS, t0, t4, t5, t8, t7, t6, t9, t10, hM8.piv.sl.Eix iP, hM8.piv.sl.Eld iP, cell_int, eP, hM8.top.sl.Eix ih, hM8.top.sl.Eld ih, ry.sl.Eix iR, ry.sl.Eld iR, cell_e8, ov.sl.Eix iV]
    refine Ow.Est ov iV (R y)[f] fun w8 ov2 hg => ?_
    have E := Below.app E E.size hg fun c hc => (ov.blk c hc).1
    simp (maxSteps := 1000000) (disch := omega) only [ES, List.mem_cons, List.not_mem_nil, implies_true, forall_const, WS, ↓reduceIte, Nat.reduceEqDiff, reduceCtorEq, AS, t0, t4, t5, t8, t7, t6, t9, t10]
    refine ⟨⟨E, y + 1, _, rfl, by omega, by rw [List.length_set]; exact lV, ?_, fun i hi => ?_, fun c hc hci => ?_, ov2⟩, by omega⟩
    · rw [nth_set iV, if_neg (fun e => hnp y hym e.symm)]; exact hVf
    · rw [nth_set iV]
      by_cases e : p i = p y
      · have := hR.inj (by omega) hym e
        rw [if_pos e, this, nth_get iR]
      · rw [if_neg e]
        exact hVp i (by
          by_cases e2 : i = y
          · exact absurd (by rw [e2]) e
          · omega)
    · rw [nth_set iV, if_neg (fun e => hci y (by omega) e.symm)]
      exact hV0 c hc fun i hi => hci i (by omega)
  obtain rfl : y = m := by omega
  have hcv : Cell.v (hd sv) = sv := ov.sl.hd.1
  have hfill : fillL (repL [Value.slice none 0 0] 1) [(0, 1, sv)] = some [sv] := by
    obtain ⟨a9, c9, e, -⟩ := ov.sl.sh
    rw [e]; rfl
  obtain ⟨bv, hbv, hbv2⟩ := ov.sl.blk_lt (ne_nil_of (i := 0) (by omega))
  have hbv1 := (ov.blk bv hbv).1
  have zD := D.size
  have ol7 := ol.up E
  have hslb : ∀ c, Fw.blk sl = some c → c < w4.heap.size := fun c hc => (ol.blk c hc).2
  have hsol : ∀ i, i < hA.length → dot C (nth (LA i)) (nth V) = 0 := hR.null hfC hnp hVf hVp fun c _ hcf hci => hV0 c hcf hci
  have hres7 : (hv = [] ∧ ∀ c, c < f → ∃ i, i < y ∧ p i = c) ∨ (∃ (h0 : 0 < hv.length) (v0 : List (El 8)), Ow w2.heap.size w7 (Cell.v hv[0]) v0 ∧ (∀ c, Fw.blk (Cell.v hv[0]) = some c → Fw.blk sl ≠ some c) ∧ v0.length = C ∧ (∀ i, i < hA.length → dot C (nth (LA i)) (nth v0) = 0) ∧ ∃ c, c < C ∧ nth v0 c ≠ 0) := by
    rcases hres with h1 | ⟨h1, v0, o0, hnb, hr2⟩
    · exact Or.inl h1
    · exact Or.inr ⟨h1, v0, o0.up E, hnb, hr2⟩
  have D := D.trans (E.mono zD)
  simp (maxSteps := 1000000) (disch := omega) only [WS, ↓reduceIte, Nat.reduceEqDiff, reduceCtorEq, AS, t0, t4, t5, t8, t7, t6, t9, t10, hM7.top.sl.Xlen, lhi]
  refine X_bsl (zs := [hd sv]) (by simp only [List.map_cons, List.map_nil, hcv]; exact hfill) (by rfl) fun e0 w9 oe hB => ?_
  have D := D.trans (hB.mono D.size)
  have ol9 := ol7.up hB
  have ov9 := ov.up hB
  have z79 := hB.size
  simp (maxSteps := 1000000) (disch := omega) only [WS, ↓reduceIte, Nat.reduceEqDiff, reduceCtorEq, AS, t0, t4, t5, t8, t7, t6, t9, t10]
  refine Ow.Xapp ol9 oe.sl D.size (by simp only [List.length_singleton, maxBytes]; omega) (by simp only [List.length_singleton]; omega) fun sl2 w10 ol10 hg hnr => ?_
  have D := Below.app D D.size hg fun c hc => (ol9.blk c hc).1
  have ov10 := ov9.gr' hg fun c hc e => by rw [hbv] at e; cases e; have := hslb bv hc; omega
  simp (maxSteps := 1000000) (disch := omega) only [WS, ↓reduceIte, Nat.reduceEqDiff, reduceCtorEq, AS, t0, t4, t5, t8, t7]
  refine ⟨⟨D, f + 1, a, sl2, hv ++ [hd sv], rfl, by omega, rfl, ha, fun i hi => by have := hpa i hi; omega, fun i hi him => ?_, rfl, by rw [List.length_append, List.length_singleton]; omega, ol10, Or.inr ?_⟩, by rw [t8o]; simp only [toI_int, Int.toNat_natCast]; omega⟩
  · have h1 := hpb i hi him
    have h2 := hnp i him
    omega
  · rcases hres7 with ⟨h1, -⟩ | ⟨h1, v0, o0, hnb, l0', hs0, hnz⟩
    · subst h1
      refine ⟨by simp, V, ?_, fun c hc => ?_, lV, hsol, ⟨f, hfC, by rw [hVf]; exact El.one_ne⟩⟩
      · simp only [List.nil_append, List.getElem_cons_zero, hcv]
        exact ov10.mono zD
      · simp only [List.nil_append, List.getElem_cons_zero, hcv] at hc
        rw [hbv] at hc; cases hc
        intro e
        rcases hnr with h2 | h2
        · have := hslb bv (by rw [← h2]; exact e); omega
        · have := h2 bv e; omega
    · have e0 : (hv ++ [hd sv])[0]'(by rw [List.length_append]; omega) = hv[0] := List.getElem_append_left h1
      refine ⟨by rw [List.length_append]; omega, v0, ?_, fun c hc => ?_, l0', hs0, hnz⟩
      · rw [e0]
        exact (o0.up hB).gr' hg fun c hc e => hnb c e hc
      · rw [e0] at hc
        intro e
        rcases hnr with h2 | h2
        · exact hnb c hc (by rw [← h2]; exact e)
        · have := h2 c e
          have := (o0.blk c hc).2
          omega
end Go.Proofs.Ytbaljbadlfopgaa.Fw
