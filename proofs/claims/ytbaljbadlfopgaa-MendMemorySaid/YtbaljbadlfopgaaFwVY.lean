import Derived.Test.YtbaljbadlfopgaaFwUY
import Derived.Test.YtbaljbadlfopgaaGfWY
set_option linter.all false
/- Rows of the call's own. -/
set_option linter.unusedVariables false
set_option linter.unusedSimpArgs false
namespace Go.Fw
open Go Go.RowKit
/-- What is known of rows in memory: the list of their headers stays; each row may be read and written. -/
structure Rws {α : Type} [Cell α] (M : List (List α) → World → Prop) (rows : Value) (hs : List Hd) : Prop where
  hd : ∀ R w, M R w → Sl w rows hs ∧ R.length = hs.length
  wr : ∀ (R : List (List α)) (i : Nat) (hi : i < hs.length), R.length = hs.length → Wr (fun x w => M (R.set i x) w) (Cell.v hs[i])
  up : ∀ R w w', M R w → Below w.heap.size w w' → M R w'
/-- No two rows in one block; the list of the rows in none of theirs. -/
structure Apart (rows : Value) (hs : List Hd) : Prop where
  two : ∀ i j (hi : i < hs.length) (hj : j < hs.length) b, i ≠ j → Fw.blk (Cell.v hs[i]) = some b → Fw.blk (Cell.v hs[j]) ≠ some b
  list : ∀ i (hi : i < hs.length) b, Fw.blk (Cell.v hs[i]) = some b → Fw.blk rows ≠ some b
def Rown {α : Type} [Cell α] (B : Nat) (w0 : World) (rows : Value) (hs : List Hd) (R : List (List α)) (w : World) : Prop :=
  R.length = hs.length ∧ (∀ i (hi : i < hs.length), Ow B w (Cell.v hs[i]) (R.getD i [])) ∧ Sl w rows hs ∧ Below B w0 w ∧ B ≤ w.heap.size
theorem getD_setL {α : Type} (R : List (List α)) {i : Nat} (h : i < R.length) (a : List α) (x : Nat) : (R.set i a).getD x [] = if x = i then a else R.getD x [] := by
  simp only [List.getD_eq_getElem?_getD, List.getElem?_set]
  by_cases hx : x = i
  · subst hx; rw [if_pos rfl, if_pos rfl, if_pos h]; rfl
  · rw [if_neg (fun e => hx e.symm), if_neg hx]
theorem Rown.rws {α : Type} [Cell α] {B : Nat} {w0 : World} {rows : Value} {hs : List Hd} (ha : Apart rows hs) : Rws (α := α) (Rown B w0 rows hs) rows hs where
  hd := fun R w h => ⟨h.2.2.1, h.1⟩
  wr := fun R i hi hl => by
    have gi : ∀ x : List α, (R.set i x).getD i [] = x := fun x => by rw [getD_setL R (by omega), if_pos rfl]
    refine ⟨fun x w h => ?_, fun x w k y h hk => ?_, fun x w w' h hB => ?_⟩
    · have := (h.2.1 i hi).sl
      rwa [gi] at this
    · obtain ⟨h1, h2, h3, h4, h5⟩ := h
      have ho := h2 i hi
      rw [gi] at ho
      obtain ⟨_, hf, _, ho', hg⟩ := st_ow ho hk y (K := fun w' => Ow B w' (Cell.v hs[i]) (x.set k y) ∧ w.grownBy w' (Fw.blk (Cell.v hs[i]))) fun w' ho hg => ⟨ho, hg⟩
      obtain ⟨b, hb, hbl⟩ := ho.sl.blk_lt (by rintro rfl; simp at hk)
      refine ⟨hf, by simpa using hl, fun j hj => ?_, ?_, below_grown h4 hg h5 fun b hb => (ho.blk b hb).1, Nat.le_trans h5 hg.size⟩
      · rw [getD_setL R (by omega)]
        by_cases hji : j = i
        · subst hji; rw [if_pos rfl]; exact ho'
        · rw [if_neg hji]
          have := h2 j hj
          rw [getD_setL R (by omega), if_neg hji] at this
          exact this.grown hg (by rw [hb]; exact ha.two i j hi hj b (fun e => hji e.symm) hb)
      · exact h3.grown hg (Or.inl (by rw [hb]; exact ha.list i hi b hb))
    · exact ⟨h.1, fun j hj => (h.2.1 j hj).up hB, h.2.2.1.up hB, Below.up h.2.2.2.1 h.2.2.2.2 hB, Nat.le_trans h.2.2.2.2 hB.size⟩
  up := fun R w w' h hB => ⟨h.1, fun j hj => (h.2.1 j hj).up hB, h.2.2.1.up hB, Below.up h.2.2.2.1 h.2.2.2.2 hB, Nat.le_trans h.2.2.2.2 hB.size⟩
end Go.Fw
