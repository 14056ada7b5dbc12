import Derived.Test.YtbaljbadlfopgaaProg
import Derived.Test.YtbaljbadlfopgaaFwTW
import Derived.Test.YtbaljbadlfopgaaSMrfW
import Derived.Test.YtbaljbadlfopgaaSMlawW
import Derived.Test.YtbaljbadlfopgaaFwStW
set_option linter.all false
set_option linter.unusedVariables false
set_option linter.unusedSimpArgs false
set_option maxRecDepth 100000
set_option maxHeartbeats 1000000
namespace Go.Proofs.Ytbaljbadlfopgaa.Fw
open Go Go.Fw Go.Proofs
attribute [local irreducible] stepI
end Go.Proofs.Ytbaljbadlfopgaa.Fw
namespace Go.Proofs.Ytbaljbadlfopgaa.Fw
open Go Go.Fw
end Go.Proofs.Ytbaljbadlfopgaa.Fw

/- Linear equations: the reduced form, its step, and what it tells about the solutions. -/
set_option linter.unusedVariables false
set_option linter.unusedSimpArgs false
set_option linter.unusedSectionVars false
namespace Go.Fw
open Go
section
variable {n : Nat} [F : Fd n]
theorem gsum_zero {f : Nat → El n} : ∀ {k : Nat}, (∀ i, i < k → f i = 0) → gsum k f = 0
  | 0, _ => rfl
  | k + 1, h => by show gsum k f + f k = 0; rw [gsum_zero fun i hi => h i (by omega), h k (by omega), El.add_zero]
theorem gsum_add (f g : Nat → El n) : ∀ k, gsum k (fun i => f i + g i) = gsum k f + gsum k g
  | 0 => (El.add_zero 0).symm
  | k + 1 => by
    show gsum k _ + (f k + g k) = (gsum k f + f k) + (gsum k g + g k)
    rw [gsum_add f g k, El.add_assoc, ← El.add_assoc (gsum k g), El.add_comm (gsum k g) (f k), El.add_assoc (f k), ← El.add_assoc]
def dot (C : Nat) (r x : Nat → El n) : El n := gsum C fun c => r c * x c
theorem dot_add (C : Nat) (r s x : Nat → El n) (a : El n) : dot C (fun c => r c + a * s c) x = dot C r x + a * dot C s x := by
  unfold dot
  rw [← gsum_mul, ← gsum_add]
  exact gsum_congr fun c _ => by rw [El.add_mul, El.mul_assoc]
theorem dot_smul (C : Nat) (r x : Nat → El n) (a : El n) : dot C (fun c => a * r c) x = a * dot C r x := by
  unfold dot
  rw [← gsum_mul]
  exact gsum_congr fun c _ => by rw [El.mul_assoc]
theorem dot_congr {C : Nat} {r s x : Nat → El n} (h : ∀ c, c < C → r c = s c) : dot C r x = dot C s x := gsum_congr fun c hc => by rw [h c hc]
/-- The reduced form of the first r rows: m rows, each with a column in which it alone is not 0. -/
structure Red (A : Nat → Nat → El n) (r C : Nat) (R : Nat → Nat → El n) (p : Nat → Nat) (m : Nat) : Prop where
  pv : ∀ i, i < m → p i < C
  del : ∀ i j, i < m → j < m → R i (p j) = if i = j then 1 else 0
  sol : ∀ x, (∀ i, i < m → dot C (R i) x = 0) ↔ (∀ i, i < r → dot C (A i) x = 0)
variable {A R : Nat → Nat → El n} {r C m : Nat} {p : Nat → Nat}
theorem Red.zero : Red A 0 C R p 0 := ⟨fun i hi => absurd hi (Nat.not_lt_zero _), fun i j hi => absurd hi (Nat.not_lt_zero _), fun x => ⟨fun _ i hi => absurd hi (Nat.not_lt_zero _), fun _ i hi => absurd hi (Nat.not_lt_zero _)⟩⟩
theorem Red.inj (h : Red A r C R p m) {i j : Nat} (hi : i < m) (hj : j < m) (e : p i = p j) : i = j := by
  have h1 := h.del i j hi hj
  rw [← e, h.del i i hi hi, if_pos rfl] at h1
  by_cases e2 : i = j
  · exact e2
  · rw [if_neg e2] at h1; exact absurd h1 El.one_ne
theorem Red.congr {R' : Nat → Nat → El n} {p' : Nat → Nat} (h : Red A r C R p m) (hR : ∀ i, i < m → ∀ c, c < C → R' i c = R i c) (hp : ∀ i, i < m → p' i = p i) : Red A r C R' p' m :=
  ⟨fun i hi => by rw [hp i hi]; exact h.pv i hi, fun i j hi hj => by rw [hp j hj, hR i hi _ (h.pv j hj)]; exact h.del i j hi hj, fun x => by
    rw [← h.sol x]
    exact ⟨fun hx i hi => by rw [← dot_congr (hR i hi)]; exact hx i hi, fun hx i hi => by rw [dot_congr (hR i hi)]; exact hx i hi⟩⟩
/-- The next row, cleared by those that are there. -/
def clr (R : Nat → Nat → El n) (p : Nat → Nat) (a : Nat → El n) : Nat → Nat → El n
  | 0 => a
  | i + 1 => fun c => clr R p a i c + clr R p a i (p i) * R i c
theorem clr_pv (h : Red A r C R p m) (a : Nat → El n) : ∀ i, i ≤ m → (∀ j, j < i → clr R p a i (p j) = 0)
  | 0, _ => fun j hj => absurd hj (Nat.not_lt_zero _)
  | i + 1, hi => fun j hj => by
    show clr R p a i (p j) + clr R p a i (p i) * R i (p j) = 0
    rw [h.del i j (by omega) (by omega)]
    by_cases e : i = j
    · rw [if_pos e, El.mul_one, e, El.add_self]
    · rw [if_neg e, El.mul_zero, El.add_zero]
      exact clr_pv h a i (by omega) j (by omega)
theorem clr_dot {x : Nat → El n} (a : Nat → El n) (hx : ∀ i, i < m → dot C (R i) x = 0) : ∀ i, i ≤ m → dot C (clr R p a i) x = dot C a x
  | 0, _ => rfl
  | i + 1, hi => by
    show dot C (fun c => clr R p a i c + clr R p a i (p i) * R i c) x = _
    rw [dot_add, clr_dot a hx i (by omega), hx i (by omega), El.mul_zero, El.add_zero]
theorem Red.skip (h : Red A r C R p m) (hz : ∀ c, c < C → clr R p (A r) m c = 0) : Red A (r + 1) C R p m :=
  ⟨h.pv, h.del, fun x => by
    constructor
    · intro hx i hi
      by_cases e : i = r
      · rw [e, ← clr_dot (p := p) (A r) hx m (Nat.le_refl _)]
        exact gsum_zero fun c hc => by rw [hz c hc, El.zero_mul]
      · exact (h.sol x).1 hx i (by omega)
    · intro hx
      exact (h.sol x).2 fun i hi => hx i (by omega)⟩
theorem Red.next (h : Red A r C R p m) {q : Nat} (hq : q < C) {d : El n} (hd : d * clr R p (A r) m q = 1) :
    Red A (r + 1) C (fun i c => if i = m then d * clr R p (A r) m c else R i c + R i q * (d * clr R p (A r) m c)) (fun i => if i = m then q else p i) (m + 1) := by
  obtain ⟨v, hv⟩ : ∃ v : Nat → El n, v = fun c => d * clr R p (A r) m c := ⟨_, rfl⟩
  have vq : v q = 1 := by rw [hv]; exact hd
  have vp : ∀ j, j < m → v (p j) = 0 := fun j hj => by rw [hv]; show d * clr R p (A r) m (p j) = 0; rw [clr_pv h (A r) m (Nat.le_refl _) j hj, El.mul_zero]
  have hd0 : d ≠ 0 := fun e => by rw [e, El.zero_mul] at hd; exact El.one_ne hd.symm
  have vc : ∀ c, d * clr R p (A r) m c = v c := fun c => by rw [hv]
  simp only [vc]
  refine ⟨fun i hi => ?_, fun i j hi hj => ?_, fun x => ?_⟩
  · by_cases e : i = m
    · simp only [if_pos e]; exact hq
    · simp only [if_neg e]; exact h.pv i (by omega)
  · by_cases ei : i = m
    · by_cases ej : j = m
      · simp only [if_pos ei, if_pos ej]; rw [vq, if_pos (by omega)]
      · simp only [if_pos ei, if_neg ej]; rw [vp j (by omega), if_neg (by omega)]
    · by_cases ej : j = m
      · simp only [if_neg ei, if_pos ej]; rw [vq, El.mul_one, El.add_self, if_neg (by omega)]
      · simp only [if_neg ei, if_neg ej]; rw [vp j (by omega), El.mul_zero, El.add_zero]; exact h.del i j (by omega) (by omega)
  · have hvx : dot C v x = d * dot C (clr R p (A r) m) x := by rw [hv]; exact dot_smul C _ x d
    have hrow : ∀ i, i ≠ m → dot C (fun c => if i = m then v c else R i c + R i q * v c) x = dot C (R i) x + R i q * dot C v x := fun i e => by
      rw [← dot_add]
      exact dot_congr fun c _ => if_neg e
    have hrm : dot C (fun c => if m = m then v c else R m c + R m q * v c) x = dot C v x := dot_congr fun c _ => if_pos rfl
    constructor
    · intro hx
      have h0 : dot C v x = 0 := by rw [← hrm]; exact hx m (by omega)
      have hR : ∀ i, i < m → dot C (R i) x = 0 := fun i hi => by
        have := hx i (by omega)
        rw [hrow i (by omega), h0, El.mul_zero, El.add_zero] at this
        exact this
      intro i hi
      by_cases e : i = r
      · rw [e, ← clr_dot (p := p) (A r) hR m (Nat.le_refl _)]
        rw [h0] at hvx
        exact (El.mul_eq_zero.1 hvx.symm).resolve_left hd0
      · exact (h.sol x).1 hR i (by omega)
    · intro hx
      have hR := (h.sol x).2 fun i hi => hx i (by omega)
      have h0 : dot C v x = 0 := by rw [hvx, clr_dot (p := p) (A r) hR m (Nat.le_refl _), hx r (by omega), El.mul_zero]
      intro i hi
      by_cases e : i = m
      · rw [e, hrm, h0]
      · rw [hrow i e, hR i (by omega), h0, El.mul_zero, El.add_zero]
/-- Two rows change places. -/
def sw (i j x : Nat) : Nat := if x = i then j else if x = j then i else x
end
end Go.Fw

set_option linter.unusedVariables false
set_option linter.unusedSimpArgs false
set_option maxRecDepth 100000
set_option maxHeartbeats 1000000
namespace Go.Proofs.Ytbaljbadlfopgaa.Fw
open Go Go.Fw Go.Proofs
attribute [local irreducible] stepI

end Go.Proofs.Ytbaljbadlfopgaa.Fw
namespace Go.Proofs.Ytbaljbadlfopgaa.Fw
open Go Go.Fw
/-- Rows of the call's own and their pivots, growing. -/
structure RdM (B : Nat) (w : World) (sr sp : Value) (hs : List Hd) (P : List Int) (R : Nat → List (El 8)) (m C : Nat) : Prop where
  top : Ow B w sr hs
  piv : Ow B w sp P
  lh : hs.length = m
  lp : P.length = m
  row : ∀ j (hj : j < hs.length), Ow B w (Cell.v hs[j]) (R j)
  len : ∀ j, j < m → (R j).length = C
  two : ∀ i j (hi : i < hs.length) (hj : j < hs.length) c, i ≠ j → Fw.blk (Cell.v hs[i]) = some c → Fw.blk (Cell.v hs[j]) ≠ some c
  rt : ∀ j (hj : j < hs.length) c, Fw.blk (Cell.v hs[j]) = some c → Fw.blk sr ≠ some c
  rp : ∀ j (hj : j < hs.length) c, Fw.blk (Cell.v hs[j]) = some c → Fw.blk sp ≠ some c
  tp : ∀ c, Fw.blk sr = some c → Fw.blk sp ≠ some c
section
variable {B : Nat} {w w' : World} {sr sp : Value} {hs : List Hd} {P : List Int} {R : Nat → List (El 8)} {m C : Nat}
theorem RdM.nil (B : Nat) (w : World) (R : Nat → List (El 8)) (C : Nat) : RdM B w (.slice none 0 0) (.slice none 0 0) [] [] R 0 C :=
  ⟨Ow.nil _ _, Ow.nil _ _, rfl, rfl, fun j hj => by simp at hj, fun j hj => absurd hj (Nat.not_lt_zero _), fun i j hi => by simp at hi, fun j hj => by simp at hj, fun j hj => by simp at hj, fun c hc => by cases hc⟩
theorem RdM.up (h : RdM B w sr sp hs P R m C) (hB : RowKit.Below w.heap.size w w') : RdM B w' sr sp hs P R m C :=
  ⟨h.top.up hB, h.piv.up hB, h.lh, h.lp, fun j hj => (h.row j hj).up hB, h.len, h.two, h.rt, h.rp, h.tp⟩
/-- All blocks lie below the heap's size. -/
theorem RdM.lt (h : RdM B w sr sp hs P R m C) : (∀ c, Fw.blk sr = some c → c < w.heap.size) ∧ (∀ c, Fw.blk sp = some c → c < w.heap.size) ∧ ∀ j (hj : j < hs.length) c, Fw.blk (Cell.v hs[j]) = some c → c < w.heap.size :=
  ⟨fun c hc => (h.top.blk c hc).2, fun c hc => (h.piv.blk c hc).2, fun j hj c hc => ((h.row j hj).blk c hc).2⟩
/-- Another block was written. -/
theorem RdM.kp (h : RdM B w sr sp hs P R m C) {b : Nat} (hk : Kp w b w') (h1 : Fw.blk sr ≠ some b) (h2 : Fw.blk sp ≠ some b) (h3 : ∀ j (hj : j < hs.length), Fw.blk (Cell.v hs[j]) ≠ some b) : RdM B w' sr sp hs P R m C :=
  ⟨hk.ow h.top fun c hc e => h1 (by rw [hc, e]), hk.ow h.piv fun c hc e => h2 (by rw [hc, e]), h.lh, h.lp, fun j hj => hk.ow (h.row j hj) fun c hc e => h3 j hj (by rw [hc, e]), h.len, h.two, h.rt, h.rp, h.tp⟩
/-- Row i was written in place. -/
theorem RdM.put (h : RdM B w sr sp hs P R m C) {i b : Nat} (hi : i < hs.length) (hb : Fw.blk (Cell.v hs[i]) = some b) (hk : Kp w b w') {l : List (El 8)} (hl : l.length = C) (ho : Ow B w' (Cell.v hs[i]) l) : RdM B w' sr sp hs P (fun j => if j = i then l else R j) m C :=
  ⟨hk.ow h.top fun c hc e => h.rt i hi b hb (by rw [hc, e]), hk.ow h.piv fun c hc e => h.rp i hi b hb (by rw [hc, e]), h.lh, h.lp, fun j hj => by
    by_cases e : j = i
    · subst e; simp only [if_true]; exact ho
    · simp only [if_neg e]
      exact hk.ow (h.row j hj) fun c hc e2 => h.two i j hi hj b (fun e' => e e'.symm) hb (by rw [hc, e2]), fun j hj => by
    by_cases e : j = i
    · simp only [if_pos e]; exact hl
    · simp only [if_neg e]; exact h.len j hj, h.two, h.rt, h.rp, h.tp⟩
theorem RdM.congr {R' : Nat → List (El 8)} (h : RdM B w sr sp hs P R m C) (e : ∀ j, j < m → R' j = R j) : RdM B w sr sp hs P R' m C :=
  ⟨h.top, h.piv, h.lh, h.lp, fun j hj => by rw [e j (by rw [← h.lh]; exact hj)]; exact h.row j hj, fun j hj => by rw [e j hj]; exact h.len j hj, h.two, h.rt, h.rp, h.tp⟩
end
end Go.Proofs.Ytbaljbadlfopgaa.Fw

set_option linter.unusedVariables false
set_option linter.unusedSimpArgs false
set_option maxRecDepth 100000
set_option maxHeartbeats 1000000
namespace Go.Proofs.Ytbaljbadlfopgaa.Fw
open Go Go.Fw Go.Proofs
attribute [local irreducible] stepI
end Go.Proofs.Ytbaljbadlfopgaa.Fw
namespace Go.Proofs.Ytbaljbadlfopgaa.Fw
open Go Go.Fw
end Go.Proofs.Ytbaljbadlfopgaa.Fw

set_option linter.unusedVariables false
set_option linter.unusedSimpArgs false
set_option maxRecDepth 100000
set_option maxHeartbeats 1000000
namespace Go.Proofs.Ytbaljbadlfopgaa.Fw
open Go Go.Fw Go.Proofs
attribute [local irreducible] stepI
end Go.Proofs.Ytbaljbadlfopgaa.Fw
namespace Go.Proofs.Ytbaljbadlfopgaa.Fw
open Go Go.Fw
end Go.Proofs.Ytbaljbadlfopgaa.Fw
