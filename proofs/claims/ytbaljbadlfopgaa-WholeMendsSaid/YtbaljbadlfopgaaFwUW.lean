import Derived.Test.YtbaljbadlfopgaaFwTW
set_option linter.all false
/- Cuts of what the call owns; memory that is written through a slice while all else that is known stays. -/
set_option linter.unusedVariables false
set_option linter.unusedSimpArgs false
namespace Go.Fw
open Go Go.RowKit
section
variable {α : Type} [Cell α] {w w' : World} {s : Value} {l : List α}
end
theorem Below.app {B : Nat} {w0 w w' : World} {s : Value} (hB : Below B w0 w) (hs : B ≤ w.heap.size) (hg : w.grownBy w' (Fw.blk s)) (hb : ∀ b, Fw.blk s = some b → B ≤ b) : Below B w0 w' := hB.grown hg hs hb
/-- What M says of the memory and of the elements of s: they may be read, written one by one, and new memory may be added. -/
structure Wr {α : Type} [Cell α] (M : List α → World → Prop) (s : Value) : Prop where
  sl : ∀ l w, M l w → Sl w s l
  st : ∀ (l : List α) (w : World) (i : Nat) (x : α), M l w → i < l.length → w.frozen? ((bs s).add i) = false ∧ M (l.set i x) (w.setCell ((bs s).add i) (Cell.v x))
  up : ∀ l w w', M l w → Below w.heap.size w w' → M l w'
section
variable {α : Type} [Cell α] {M : List α → World → Prop} {s : Value} {l : List α} {w w' : World}
theorem Wr.drew (h : Wr M s) (hm : M l w) : M l w.drew := h.up l w _ hm (bel_drew w)
theorem Wr.stK (h : Wr M s) (hm : M l w) {i : Nat} (hi : i < l.length) (x : α) {K : World → Prop} (hk : ∀ w', M (l.set i x) w' → w.grownBy w' (some (bs s).block) → K w') : stK w (elP s i) (Cell.v x) K := by
  obtain ⟨h1, h2⟩ := h.st l w i x hm hi
  refine ⟨⟨_, (h.sl l w hm).rd i _ (List.getElem?_eq_getElem hi)⟩, h1, Cell.sc x, hk _ h2 ?_⟩
  have := setCell_grown w ((bs s).add i) (Cell.v x)
  rw [add_block] at this
  exact this
variable {P : Program} {d : Option Nat} {L : List D} {Q : T → World → Prop} {t : T}
theorem Wr.Xst (h : Wr M s) (hm : M l w) {i : Nat} (hi : i < l.length) (x : α) (hk : ∀ w', M (l.set i x) w' → w.grownBy w' (some (bs s).block) → W P Q L (put t d undef) w') : XW P (.st (.c (elP s i)) (.c (Cell.v x))) d L Q t w :=
  h.stK hm hi x (K := fun w' => W P Q L (put t d undef) w') hk
theorem Wr.Est {n_ : Nat} {u_ : List Nat} {rs_ : List RN} {es_ : List EN} (h : Wr M s) (hm : M l w) {i : Nat} (hi : i < l.length) (x : α) (hk : ∀ w', M (l.set i x) w' → w.grownBy w' (some (bs s).block) → okR P u_ w' rs_ ∧ WE P Q L rs_ ((n_, w) :: es_) (put t d undef) w') :
    XE P n_ (.st (.c (elP s i)) (.c (Cell.v x))) u_ d L Q rs_ es_ t w :=
  XE_eff rfl (h.stK hm hi x hk)
/-- With a row of another block. -/
theorem Wr.row (h : Wr M s) {b : Nat} (cs : List Value) (hb : (bs s).block ≠ b) : Wr (fun l w => M l w ∧ Row w b cs) s where
  sl := fun l w hm => h.sl l w hm.1
  st := fun l w i x hm hi => ⟨(h.st l w i x hm.1 hi).1, (h.st l w i x hm.1 hi).2, hm.2.grown (setCell_grown w _ _) (by rw [add_block]; intro e; cases e; exact hb rfl)⟩
  up := fun l w w' hm hB => ⟨h.up l w w' hm.1 hB, hm.2.up hB⟩
end
/-- A slice of the call's own, with what else is known of the memory below. -/
theorem Wr.own {α : Type} [Cell α] (B : Nat) (w0 : World) (s : Value) : Wr (fun (l : List α) w => Ow B w s l ∧ Below B w0 w ∧ B ≤ w.heap.size) s where
  sl := fun l w h => h.1.sl
  st := fun l w i x h hi => by
    have := st_ow h.1 hi x (K := fun w' => Ow B w' s (l.set i x) ∧ w.grownBy w' (Fw.blk s)) fun w' ho hg => ⟨ho, hg⟩
    obtain ⟨_, hf, _, ho, hg⟩ := this
    exact ⟨hf, ho, below_grown h.2.1 hg h.2.2 fun b hb => (h.1.blk b hb).1, Nat.le_trans h.2.2 hg.size⟩
  up := fun l w w' h hb => ⟨h.1.up hb, Below.up h.2.1 h.2.2 hb, Nat.le_trans h.2.2 hb.size⟩
end Go.Fw
