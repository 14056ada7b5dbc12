import Derived.Test.YtpmfeaajpjjfiaaFwTA
set_option linter.all false
/- Cuts of what the call owns; memory that is written through a slice while all else that is known stays. -/
set_option linter.unusedVariables false
set_option linter.unusedSimpArgs false
namespace Go.Fw
open Go Go.RowKit
section
variable {α : Type} [Cell α] {w w' : World} {s : Value} {l : List α}
/-- A cut's elements are the whole's. -/
theorem elP_sub (h : Sl w s l) {lo hi : Nat} (h1 : lo < hi) (h2 : hi ≤ l.length) (i : Nat) : elP (Fw.sub s lo hi) i = elP s (lo + i) := by
  obtain ⟨a, cap, rfl, hc, hp⟩ := h.sh
  obtain ⟨p, rfl⟩ := hp (by rintro rfl; simp at h2; omega)
  unfold elP
  rw [bs_sub h1 (by omega) rfl, add_add']
  rfl
theorem sub_blk (s : Value) (lo hi : Nat) : Fw.blk (Fw.sub s lo hi) = Fw.blk s := by
  unfold Fw.sub
  split
  · rename_i a n c
    unfold slV
    split
    · cases a <;> rfl
    · cases a with
      | none => rfl
      | some p => simp only [Fw.blk, Option.map_some, Value.ownBlock, add_block]
  · rfl
end
theorem X_bldE {P : Program} {d : Option Nat} {l : List D} {Q : T → World → Prop} {t : T} {w : World} {z cs : List Value} {ps : List (Nat × Nat × X)} (h : fillL z (evp tz ps) = some cs) : XW P (.bld z ps) d l Q t w = W P Q l (put t d (.agg cs.toArray)) w := by
  rw [X_bld, h]
theorem E_ixac {n_ : Nat} {u_ : List Nat} {rs_ : List RN} {es_ : List EN} {n sz : Nat} {a : Addr} {k : IntKind} (c : Int) (i : Nat) (hc : c = (i : Int)) (hi : i < n) (P : Program) (d : Option Nat) (l : List D) (Q : T → World → Prop) (t : T) (w : World) :
    XE P n_ (.ixa n sz (.c (.pointer (some a))) (.c (.int k c))) u_ d l Q rs_ es_ t w = WE P Q l rs_ es_ (put t d (.pointer (some (a.add (i * sz))))) w := by subst hc; exact E_ixa hi P d l Q t w
/-- A function that answers an array of constants. -/
theorem tabWP {P : Program} {e : TypeId} {z cs : List Value} {ps : List (Nat × Nat × X)} {n : Nat} {K : Value → World → Prop} {t : T} {w : World} (hf : fillL z (evp tz ps) = some cs) (hp : ∀ t t', evp t ps = evp t' ps) (hz : z.length = n) (hc : cs.length = n) (hs : ∀ u ∈ cs, scal u = true)
    (hk : ∀ w', Below w.heap.size w w' → K (.agg cs.toArray) w') : WP P (.seq (.ops [⟨0, some 0, none, .alloc e z, []⟩]) (.seq (.ops [⟨0, some 1, none, .bld z ps, []⟩, ⟨1, none, none, .stn n (.t 0) (.t 1), []⟩]) .ret)) (endQ [.cn 0 n] K) t w := by
  rw [lZ32, lZ33, lZ37]
  refine X_alloc fun b w1 hr hb hB => ?_
  rw [lZ46, lZ1, lZ32, lZ33, lZ37]
  unfold I.at
  refine (X_bldE (cs := cs) ?_).mpr ?_
  · rw [evp_at, hp _ tz]; exact hf
  rw [lZ37]
  simp only [I.at, lZ97, lZ19, lZ10, ↓reduceIte, Nat.reduceEqDiff, reduceCtorEq]
  refine Row.Xstn (vs := cs) hr hc hs hz fun w2 hr hg => ?_
  have hB := Below.row hB hb hg
  simp only [lZ46, lZ1, lZ30, lZ15, lZ23, lZ34, lZ16, lZ19, lZ10, ↓reduceIte, Nat.reduceEqDiff, reduceCtorEq]
  rw [hr.ldn hc]
  exact hk w2 hB
theorem Below.app {B : Nat} {w0 w w' : World} {s : Value} (hB : Below B w0 w) (hs : B ≤ w.heap.size) (hg : w.grownBy w' (Fw.blk s)) (hb : ∀ b, Fw.blk s = some b → B ≤ b) : Below B w0 w' := hB.grown hg hs hb
/-- What M says of the memory and of the elements of s: they may be read, written one by one, and new memory may be added. -/
structure Wr {α : Type} [Cell α] (M : List α → World → Prop) (s : Value) : Prop where
  sl : ∀ l w, M l w → Sl w s l
  st : ∀ (l : List α) (w : World) (i : Nat) (x : α), M l w → i < l.length → w.frozen? ((bs s).add i) = false ∧ M (l.set i x) (w.setCell ((bs s).add i) (Cell.v x))
  up : ∀ l w w', M l w → Below w.heap.size w w' → M l w'
section
variable {α : Type} [Cell α] {M : List α → World → Prop} {s : Value} {l : List α} {w w' : World}
theorem Wr.drew (h : Wr M s) (hm : M l w) : M l w.drew := h.up l w _ hm (bel_drew w)
theorem Wr.stK (h : Wr M s) (hm : M l w) {i : Nat} (hi : i < l.length) (x : α) {K : World → Prop} (hk : ∀ w', M (l.set i x) w' → w.grownBy w' (some (bs s).block) → K w') : stK w (elP s i) (Cell.v x) K := by
  obtain ⟨h1, h2⟩ := h.st l w i x hm hi
  refine ⟨⟨_, (h.sl l w hm).rd i _ (List.getElem?_eq_getElem hi)⟩, h1, Cell.sc x, hk _ h2 ?_⟩
  have := setCell_grown w ((bs s).add i) (Cell.v x)
  rw [add_block] at this
  exact this
variable {P : Program} {d : Option Nat} {L : List D} {Q : T → World → Prop} {t : T}
theorem Wr.Xst (h : Wr M s) (hm : M l w) {i : Nat} (hi : i < l.length) (x : α) (hk : ∀ w', M (l.set i x) w' → w.grownBy w' (some (bs s).block) → W P Q L (put t d undef) w') : XW P (.st (.c (elP s i)) (.c (Cell.v x))) d L Q t w :=
  h.stK hm hi x (K := fun w' => W P Q L (put t d undef) w') hk
theorem Wr.Est {n_ : Nat} {u_ : List Nat} {rs_ : List RN} {es_ : List EN} (h : Wr M s) (hm : M l w) {i : Nat} (hi : i < l.length) (x : α) (hk : ∀ w', M (l.set i x) w' → w.grownBy w' (some (bs s).block) → okR P u_ w' rs_ ∧ WE P Q L rs_ ((n_, w) :: es_) (put t d undef) w') :
    XE P n_ (.st (.c (elP s i)) (.c (Cell.v x))) u_ d L Q rs_ es_ t w :=
  XE_eff rfl (h.stK hm hi x hk)
/-- With a row of another block. -/
theorem Wr.row (h : Wr M s) {b : Nat} (cs : List Value) (hb : (bs s).block ≠ b) : Wr (fun l w => M l w ∧ Row w b cs) s where
  sl := fun l w hm => h.sl l w hm.1
  st := fun l w i x hm hi => ⟨(h.st l w i x hm.1 hi).1, (h.st l w i x hm.1 hi).2, hm.2.grown (setCell_grown w _ _) (by rw [add_block]; intro e; cases e; exact hb rfl)⟩
  up := fun l w w' hm hB => ⟨h.up l w w' hm.1 hB, hm.2.up hB⟩
theorem Sl.bs_lt (h : Sl w s l) (hl : l ≠ []) : (bs s).block < w.heap.size := by
  obtain ⟨x, l', rfl⟩ := List.exists_cons_of_ne_nil hl
  have := block_lt (h.rd 0 x rfl)
  rwa [add_block] at this
end
/-- A slice of the call's own, with what else is known of the memory below. -/
theorem Wr.own {α : Type} [Cell α] (B : Nat) (w0 : World) (s : Value) : Wr (fun (l : List α) w => Ow B w s l ∧ Below B w0 w ∧ B ≤ w.heap.size) s where
  sl := fun l w h => h.1.sl
  st := fun l w i x h hi => by
    have := st_ow h.1 hi x (K := fun w' => Ow B w' s (l.set i x) ∧ w.grownBy w' (Fw.blk s)) fun w' ho hg => ⟨ho, hg⟩
    obtain ⟨_, hf, _, ho, hg⟩ := this
    exact ⟨hf, ho, below_grown h.2.1 hg h.2.2 fun b hb => (h.1.blk b hb).1, Nat.le_trans h.2.2 hg.size⟩
  up := fun l w w' h hb => ⟨h.1.up hb, Below.up h.2.1 h.2.2 hb, Nat.le_trans h.2.2 hb.size⟩
/-- A piece of it. -/
theorem Wr.win {α : Type} [Cell α] {N : List α → World → Prop} {s : Value} (hN : Wr N s) (pre post : List α) {h o e : Nat} (h0 : 0 < h) (ho : o = pre.length) (he : e = o + h) : Wr (fun a w => a.length = h ∧ N (pre ++ a ++ post) w) (Fw.sub s o e) where
  sl := fun a w hm => by
    obtain ⟨ha, hn⟩ := hm
    subst ho he
    have := (hN.sl _ w hn).sub (lo := pre.length) (hi := pre.length + h) (by omega) (by simp; omega)
    rw [List.append_assoc, List.take_length_add_append, List.drop_left', List.take_append_of_le_length (by omega), List.take_of_length_le (by omega)] at this
    · exact this
    · rfl
  st := fun a w i x hm hi => by
    obtain ⟨ha, hn⟩ := hm
    subst ho he
    have hsl := hN.sl _ w hn
    have he := elP_sub hsl (lo := pre.length) (hi := pre.length + h) (by omega) (by simp; omega) i
    unfold elP at he
    simp only [Value.pointer.injEq, Option.some.injEq] at he
    rw [he]
    have := hN.st _ w (pre.length + i) x hn (by simp; omega)
    refine ⟨this.1, by simpa using ha, ?_⟩
    have h2 := this.2
    rw [List.append_assoc, List.set_append_right _ _ (by omega), Nat.add_sub_cancel_left, List.set_append_left _ _ hi, ← List.append_assoc] at h2
    exact h2
  up := fun a w w' hm hB => ⟨hm.1, hN.up _ w w' hm.2 hB⟩
theorem Wr.iff {α : Type} [Cell α] {M N : List α → World → Prop} {s : Value} (h : Wr N s) (e : ∀ l w, M l w ↔ N l w) : Wr M s where
  sl := fun l w hm => h.sl l w ((e l w).1 hm)
  st := fun l w i x hm hi => ⟨(h.st l w i x ((e l w).1 hm) hi).1, (e _ _).2 (h.st l w i x ((e l w).1 hm) hi).2⟩
  up := fun l w w' hm hB => (e _ _).2 (h.up l w w' ((e l w).1 hm) hB)
/-- Two pieces side by side. -/
theorem Wr.win2 {α : Type} [Cell α] {N : List α → World → Prop} {s : Value} (hN : Wr N s) (pre post : List α) {h o : Nat} (h0 : 0 < h) (ho : o = pre.length) :
    (∀ b, Wr (fun a w => a.length = h ∧ b.length = h ∧ N (pre ++ a ++ b ++ post) w) (Fw.sub s o (o + h))) ∧ ∀ a, Wr (fun b w => a.length = h ∧ b.length = h ∧ N (pre ++ a ++ b ++ post) w) (Fw.sub s (o + h) (o + 2 * h)) := by
  constructor
  · intro b
    by_cases hb : b.length = h
    · refine (hN.win pre (b ++ post) h0 ho rfl).iff fun a w => ?_
      rw [List.append_assoc (pre ++ a)]
      exact ⟨fun h => ⟨h.1, h.2.2⟩, fun h => ⟨h.1, hb, h.2⟩⟩
    · exact ⟨fun a w hm => absurd hm.2.1 hb, fun a w i x hm => absurd hm.2.1 hb, fun a w w' hm => absurd hm.2.1 hb⟩
  · intro a
    by_cases ha : a.length = h
    · refine (hN.win (pre ++ a) post h0 (o := o + h) (by simp; omega) (by omega)).iff fun b w => ?_
      exact ⟨fun h => ⟨h.2.1, h.2.2⟩, fun h => ⟨ha, h.1, h.2⟩⟩
    · exact ⟨fun b w hm => absurd hm.1 ha, fun b w i x hm => absurd hm.1 ha, fun b w w' hm => absurd hm.1 ha⟩
end Go.Fw
