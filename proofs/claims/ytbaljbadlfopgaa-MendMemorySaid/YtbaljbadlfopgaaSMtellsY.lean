import Derived.Test.YtbaljbadlfopgaaProg
import Derived.Test.YtbaljbadlfopgaaFwTY
import Derived.Test.YtbaljbadlfopgaaGfLgY
set_option linter.all false
set_option linter.unusedVariables false
set_option linter.unusedSimpArgs false
set_option maxRecDepth 100000
set_option maxHeartbeats 1000000
namespace Go.Proofs.Ytbaljbadlfopgaa.Fw
open Go Go.Fw Go.Proofs
attribute [local irreducible] stepI
end Go.Proofs.Ytbaljbadlfopgaa.Fw
namespace Go.Proofs.Ytbaljbadlfopgaa.Fw
open Go Go.Fw
/-- isColumn's term of l: with t factors done. -/
def vtm (xi c : El 8) (l : Nat) : Nat → El 8
  | 0 => c * (xi + en8 l).inv
  | t + 1 => if t = l then vtm xi c l t else vtm xi c l t * (xi + en8 t) * (en8 l + en8 t).inv
/-- The term of l in the sum for row i. -/
def ctm (f : Int) (k : Nat) (i : Nat) (c : El 8) (l : Nat) : El 8 := if f = 0 then vtm (en8 i) c l k * (en8 i + en8 l) else c * (en8 i + en8 l).inv
/-- Is this a codeword's column? -/
def isCol (f : Int) (k n : Nat) (C : Nat → El 8) : Prop := ∀ i, k ≤ i → i < n → gsum k (fun l => ctm f k i (C l) l) = C i
theorem u8_xor {a b : Nat} (ha : a < 256) (hb : b < 256) : IntKind.u8.wrap (bitsOp .xor .i64 (a : Int) (b : Int)) = ((en8 a + en8 b).v.toNat : Int) := by
  rw [bits_xor fits_i64 (by omega) (by omega)]
  have hx : a ^^^ b < 256 := Nat.xor_lt_two_pow (n := 8) ha hb
  rw [wrap_u8 _ (by omega)]
  show ((a ^^^ b : Nat) : Int) = (((en8 a).v ^^^ (en8 b).v).toNat : Int)
  rw [BitVec.toNat_xor, en8_v ha, en8_v hb]
theorem en8_ne {a b : Nat} (ha : a < 256) (hb : b < 256) (h : a ≠ b) : en8 a + en8 b ≠ 0 := fun e => h (en8_inj ha hb (El.eq_of_add e))
end Go.Proofs.Ytbaljbadlfopgaa.Fw

set_option linter.unusedVariables false
set_option linter.unusedSimpArgs false
set_option maxRecDepth 100000
set_option maxHeartbeats 1000000
namespace Go.Proofs.Ytbaljbadlfopgaa.Fw
open Go Go.Fw Go.Proofs
attribute [local irreducible] stepI

end Go.Proofs.Ytbaljbadlfopgaa.Fw
namespace Go.Proofs.Ytbaljbadlfopgaa.Fw
open Go Go.Fw
instance : Std.Associative (α := El 8) (· * ·) := ⟨El.mul_assoc⟩
instance : Std.Commutative (α := El 8) (· * ·) := ⟨El.mul_comm⟩
theorem inv_uniq8 {x y : El 8} (hx : x ≠ 0) (h : x * y = 1) : y = x.inv := by
  have h1 : y * (x * x.inv) = x.inv := by
    rw [← El.mul_assoc, El.mul_comm y x, h, El.one_mul]
  rw [El.mul_inv x hx, El.mul_one] at h1
  exact h1
theorem inv_mul8 {a b : El 8} (ha : a ≠ 0) (hb : b ≠ 0) : (a * b).inv = a.inv * b.inv := by
  refine (inv_uniq8 (fun e => (El.mul_eq_zero.1 e).elim ha hb) ?_).symm
  have : a * b * (a.inv * b.inv) = (a * a.inv) * (b * b.inv) := by ac_rfl
  rw [this, El.mul_inv a ha, El.mul_inv b hb, El.mul_one]
theorem inv_one8 : (1 : El 8).inv = 1 := (inv_uniq8 El.one_ne (El.mul_one 1)).symm
theorem wpr_ppr (s : Nat) : ∀ l, wpr s l = ppr en8 s (en8 s) l
  | 0 => rfl
  | l + 1 => by
    unfold wpr ppr
    split
    · exact wpr_ppr s l
    · rw [wpr_ppr s l]
theorem wpr_out {i l : Nat} : ∀ k, l < k → k ≤ i → wpr i k = ppr en8 l (en8 i) k * (en8 i + en8 l)
  | 0, h, _ => absurd h (Nat.not_lt_zero _)
  | k + 1, h, hi => by
    have e1 : wpr i (k + 1) = wpr i k * (en8 i + en8 k) := by show (if k = i then _ else _) = _; rw [if_neg (by omega)]
    rw [e1]
    by_cases e : k = l
    · subst e
      have e2 : ppr en8 k (en8 i) (k + 1) = ppr en8 k (en8 i) k := by show (if k = k then _ else _) = _; rw [if_pos rfl]
      have e3 : ∀ m, m ≤ k → wpr i m = ppr en8 k (en8 i) m := fun m => by
        induction m with
        | zero => intro _; rfl
        | succ m ih =>
          intro hm
          have a1 : wpr i (m + 1) = wpr i m * (en8 i + en8 m) := by show (if m = i then _ else _) = _; rw [if_neg (by omega)]
          have a2 : ppr en8 k (en8 i) (m + 1) = ppr en8 k (en8 i) m * (en8 i + en8 m) := by show (if m = k then _ else _) = _; rw [if_neg (by omega)]
          rw [a1, a2, ih (by omega)]
      rw [e2, e3 k (Nat.le_refl _)]
    · have e2 : ppr en8 l (en8 i) (k + 1) = ppr en8 l (en8 i) k * (en8 i + en8 k) := by show (if k = l then _ else _) = _; rw [if_neg e]
      rw [e2, wpr_out (i := i) (l := l) k (by omega) (by omega)]
      ac_rfl
theorem en8_dist {k : Nat} (hk : k ≤ 256) : ∀ a b, a < k → b < k → en8 a = en8 b → a = b := fun a b ha hb e => en8_inj (by omega) (by omega) e
theorem vtm_eq {i l : Nat} (c : El 8) (hl : l < 256) : ∀ t, t ≤ 256 → vtm (en8 i) c l t = c * (en8 i + en8 l).inv * ppr en8 l (en8 i) t * (ppr en8 l (en8 l) t).inv
  | 0, _ => by
    show c * (en8 i + en8 l).inv = c * (en8 i + en8 l).inv * 1 * (1 : El 8).inv
    rw [inv_one8, El.mul_one, El.mul_one]
  | t + 1, h => by
    have ih := vtm_eq (i := i) c hl t (by omega)
    by_cases e : t = l
    · have a1 : vtm (en8 i) c l (t + 1) = vtm (en8 i) c l t := by show (if t = l then _ else _) = _; rw [if_pos e]
      have a2 : ∀ z, ppr en8 l z (t + 1) = ppr en8 l z t := fun z => by show (if t = l then _ else _) = _; rw [if_pos e]
      rw [a1, a2, a2, ih]
    · have a1 : vtm (en8 i) c l (t + 1) = vtm (en8 i) c l t * (en8 i + en8 t) * (en8 l + en8 t).inv := by show (if t = l then _ else _) = _; rw [if_neg e]
      have a2 : ∀ z, ppr en8 l z (t + 1) = ppr en8 l z t * (z + en8 t) := fun z => by show (if t = l then _ else _) = _; rw [if_neg e]
      have n1 : ppr en8 l (en8 l) t ≠ 0 := ppr_ne t fun j hj hjl e => hjl (en8_inj hl (by omega) e).symm
      rw [a1, a2, a2, ih, inv_mul8 n1 (en8_ne hl (by omega) (fun e' => e e'.symm))]
      ac_rfl
/-- The values of a short polynomial, unweighted, are a codeword's column. -/
theorem isCol_val {f : Int} {K n : Nat} (hf : f = 0 ∨ f = 1) (hn : n ≤ 256) (hK : K ≤ n) {g : List (El 8)} (hg : g.length ≤ K) : isCol f K n (valS f K g) := fun i hi1 hi2 => by
  have hL := lagr (en8_dist (k := K) (by omega)) hg (en8 i)
  have n1 : ∀ l, l < K → ppr en8 l (en8 l) K ≠ 0 := fun l hl => ppr_ne K fun j hj hjl e => hjl (en8_inj (by omega) (by omega) e).symm
  have n2 : ∀ l, l < K → en8 i + en8 l ≠ 0 := fun l hl => en8_ne (by omega) (by omega) (by omega)
  rcases hf with rfl | rfl
  · have hv : ∀ s, valS 0 K g s = evl g (en8 s) := fun s => by
      unfold valS wt
      rw [if_neg (by decide), inv_one8, El.mul_one]
    rw [hv i, hL]
    refine gsum_congr fun l hl => ?_
    rw [hv l]
    unfold ctm
    rw [if_pos rfl, vtm_eq _ (by omega) K (by omega)]
    have : evl g (en8 l) * (en8 i + en8 l).inv * ppr en8 l (en8 i) K * (ppr en8 l (en8 l) K).inv * (en8 i + en8 l) = evl g (en8 l) * (ppr en8 l (en8 l) K).inv * ppr en8 l (en8 i) K * ((en8 i + en8 l) * (en8 i + en8 l).inv) := by ac_rfl
    rw [this, El.mul_inv _ (n2 l hl), El.mul_one]
  · have hw : ∀ s, wt 1 K s = wpr s K := fun s => by unfold wt; rw [if_pos rfl]
    have hv : ∀ s, valS 1 K g s = evl g (en8 s) * (wpr s K).inv := fun s => by unfold valS; rw [hw]
    rw [hv i, hL, El.mul_comm, ← gsum_mul]
    refine gsum_congr fun l hl => ?_
    rw [hv l, wpr_ppr l]
    unfold ctm
    rw [if_neg (by decide)]
    have n3 : ppr en8 l (en8 i) K ≠ 0 := ppr_ne K fun j hj hjl e => by have := en8_inj (a := i) (b := j) (by omega) (by omega) e; omega
    rw [wpr_out K hl hi1, inv_mul8 n3 (n2 l hl)]
    have : (ppr en8 l (en8 i) K).inv * (en8 i + en8 l).inv * (evl g (en8 l) * (ppr en8 l (en8 l) K).inv * ppr en8 l (en8 i) K) = evl g (en8 l) * (ppr en8 l (en8 l) K).inv * (en8 i + en8 l).inv * (ppr en8 l (en8 i) K * (ppr en8 l (en8 i) K).inv) := by ac_rfl
    rw [this, El.mul_inv _ n3, El.mul_one]
theorem filter_getD (l : List Nat) (p : Nat → Bool) : ((List.range l.length).filter fun i => p (l.getD i 0)).map (fun i => l.getD i 0) = l.filter p := by
  have h : (List.range l.length).map (fun i => l.getD i 0) = l := List.ext_getElem (by simp) fun i h1 h2 => by
    rw [List.getElem_map, List.getElem_range, List.getD_eq_getElem?_getD, List.getElem?_eq_getElem h2]; rfl
  have := List.filter_map (p := p) (f := fun i => l.getD i 0) (l := List.range l.length)
  rw [h] at this
  rw [this]
  rfl
theorem off_iff {f : Int} {K : Nat} {L : Nat → Nat} {n : Nat} {R : Nat → List (El 8)} {t i : Nat} {g : List (El 8)} (hn : n ≤ 256) (hK : K ≤ 256) (hi : i < (prsL L n).length) : i ∈ offS f K L n R t g ↔ nth (R (prsL L n)[i]) t ≠ valS f K g (prsL L n)[i] := by
  have hw : wt f K (prsL L n)[i] ≠ 0 := wt_ne (by have := (prsL_get hi).1; omega) hK
  unfold offS
  rw [offs_mem, xsS_nth hi, ysS_nth hi]
  refine ⟨fun ⟨_, h⟩ e => h ?_, fun h => ⟨hi, fun e => h ?_⟩⟩
  · rw [e]
    unfold valS
    rw [El.mul_comm (evl g _), ← El.mul_assoc, El.mul_inv _ hw, El.one_mul]
  · unfold valS
    rw [e]
    have : wt f K (prsL L n)[i] * nth (R (prsL L n)[i]) t * (wt f K (prsL L n)[i]).inv = nth (R (prsL L n)[i]) t * (wt f K (prsL L n)[i] * (wt f K (prsL L n)[i]).inv) := by ac_rfl
    rw [this, El.mul_inv _ hw, El.mul_one]
theorem getD_get {l : List Nat} {i : Nat} (h : i < l.length) : l.getD i 0 = l[i] := by rw [List.getD_eq_getElem?_getD, List.getElem?_eq_getElem h]; rfl
theorem offS_len {f : Int} {K : Nat} {L : Nat → Nat} {n : Nat} {R : Nat → List (El 8)} {t : Nat} {g : List (El 8)} (hn : n ≤ 256) (hK : K ≤ 256) : (offS f K L n R t g).length = ((prsL L n).filter fun s => !decide (nth (R s) t = valS f K g s)).length := by
  rw [← filter_getD, List.length_map]
  unfold offS offs
  congr 1
  refine List.filter_congr fun i hi => ?_
  have hi := List.mem_range.1 hi
  have := off_iff (f := f) (R := R) (t := t) (g := g) hn hK hi
  unfold offS at this
  rw [offs_mem] at this
  rw [getD_get hi]
  congr 1
  refine decide_eq_decide.2 ⟨fun e => Classical.byContradiction fun h => (this.2 h).2 e, fun e => Classical.byContradiction fun h => this.1 ⟨hi, h⟩ e⟩
theorem rowS_get {f : Int} {k : Nat} {G : Nat → List (El 8)} {len s t : Nat} (h : t < (rowS f k G len s).length) : (rowS f k G len s)[t] = valS f k (G t) s := by
  have h2 : t < ((List.range len).map fun t => valS f k (G t) s).length := h
  have : ((List.range len).map fun t => valS f k (G t) s)[t] = valS f k (G t) s := by rw [List.getElem_map, List.getElem_range]
  exact this
theorem rowS_eq {f : Int} {k : Nat} {G : Nat → List (El 8)} {len s : Nat} {r : List (El 8)} (hr : r.length = len) : r = rowS f k G len s ↔ ∀ t, t < len → nth r t = valS f k (G t) s := by
  constructor
  · intro h t ht
    rw [h, nth_get (by rw [rowS_len]; exact ht)]
    exact rowS_get _
  · intro h
    refine List.ext_getElem (by rw [rowS_len, hr]) fun t h1 h2 => ?_
    have := h t (by omega)
    rw [nth_get h1] at this
    rw [this]
    exact (rowS_get _).symm
end Go.Proofs.Ytbaljbadlfopgaa.Fw

set_option linter.unusedVariables false
set_option linter.unusedSimpArgs false
set_option maxRecDepth 100000
set_option maxHeartbeats 1000000
namespace Go.Proofs.Ytbaljbadlfopgaa.Fw
open Go Go.Fw Go.Proofs
attribute [local irreducible] stepI
end Go.Proofs.Ytbaljbadlfopgaa.Fw
namespace Go.Proofs.Ytbaljbadlfopgaa.Fw
open Go Go.Fw
theorem frmB (w : World) : Frm (fun w' => RowKit.Below w.heap.size w w') (fun b => w.heap.size ≤ b) :=
  ⟨fun w1 w2 b h hb hg => h.grown hg h.size fun c hc => by cases hc; exact hb, fun w1 w2 h hB => h.trans (hB.mono h.size)⟩
theorem hln_le {hs : List Hd} {b : Nat} (h : ∀ j, j < hs.length → hln hs j ≤ b) : ∀ j, hln hs j ≤ b := fun j => by
  by_cases hj : j < hs.length
  · exact h j hj
  · unfold hln
    rw [List.getD_eq_getElem?_getD, List.getElem?_eq_none (by omega)]
    exact Nat.zero_le _
end Go.Proofs.Ytbaljbadlfopgaa.Fw
