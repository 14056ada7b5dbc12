import Derived.Test.YtbaljbadlfopgaaFwXW
set_option linter.all false
/- Rows that are gathered, each in memory of its own, and the list of their headers. -/
set_option linter.unusedVariables false
set_option linter.unusedSimpArgs false
namespace Go.Fw
open Go Go.RowKit
theorem Hj_get {hs : List Hd} {j : Nat} (h : j < hs.length) : Hj hs j = Cell.v hs[j] := by
  unfold Hj; rw [List.getD_eq_getElem?_getD, List.getElem?_eq_getElem h]; rfl
theorem Hj_app {hs m : List Hd} {j : Nat} (h : j < hs.length) : Hj (hs ++ m) j = Hj hs j := by
  unfold Hj; rw [List.getD_eq_getElem?_getD, List.getD_eq_getElem?_getD, List.getElem?_append_left h]
theorem Hj_last {hs : List Hd} {x : Hd} : Hj (hs ++ [x]) hs.length = Cell.v x := by
  unfold Hj; rw [List.getD_eq_getElem?_getD, List.getElem?_append_right (Nat.le_refl _), Nat.sub_self]; rfl
theorem Hj_set {hs : List Hd} {j : Nat} (h : j < hs.length) (x : Hd) (i : Nat) : Hj (hs.set j x) i = if i = j then Cell.v x else Hj hs i := by
  unfold Hj; rw [getD_setD hs h]; split <;> rfl
section
variable {α : Type} [Cell α] {B : Nat} {w w' w1 w2 w3 : World} {v v' s g g' : Value} {l : List α} {hs : List Hd} {L : Nat → List α}
theorem Grew.ow (h : Grew w w' g g') (ho : Ow B w s l) {b : Nat} (hg : Fw.blk g = some b) (hne : Fw.blk s ≠ some b) : Ow B w' s l := by
  rcases h with ⟨_, h⟩ | ⟨_, h⟩
  · exact ho.grown h (by rw [hg]; exact hne)
  · exact ho.up h
structure Bas (B : Nat) (w : World) (v : Value) (hs : List Hd) (L : Nat → List α) : Prop where
  own : Ow B w v hs
  row : ∀ j, j < hs.length → Ow B w (Hj hs j) (L j)
  ne : ∀ j, j < hs.length → L j ≠ []
  two : ∀ i j b, i < hs.length → j < hs.length → i ≠ j → Fw.blk (Hj hs i) = some b → Fw.blk (Hj hs j) ≠ some b
  lst : ∀ i b, i < hs.length → Fw.blk (Hj hs i) = some b → Fw.blk v ≠ some b
theorem Bas.up (h : Bas B w v hs L) (hB : Below w.heap.size w w') : Bas B w' v hs L :=
  ⟨h.own.up hB, fun j hj => (h.row j hj).up hB, h.ne, h.two, h.lst⟩
theorem Bas.get (h : Bas B w v hs L) {j : Nat} (hj : j < hs.length) : Ow B w (Cell.v hs[j]) (L j) := by
  have := h.row j hj
  rwa [Hj_get hj] at this
theorem Bas.push (h : Bas B w v hs L) (hh : hs ≠ []) (hB : B ≤ w.heap.size) (h1 : Below w.heap.size w w1) (ho : Ow w.heap.size w1 s l) (hl : l ≠ []) (h2 : Below w1.heap.size w1 w2) (hg : Grew w2 w3 v v') (hv : Ow B w3 v' (hs ++ [hd s])) :
    Bas B w3 v' (hs ++ [hd s]) (fun j => if j = hs.length then l else L j) := by
  have hB12 : Below w.heap.size w w2 := h1.trans (h2.mono h1.size)
  have hB2 := hB12.size
  obtain ⟨vb, hvb, hvlt⟩ := h.own.sl.blk_lt hh
  have hs' : Cell.v (hd s) = s := ho.sl.hd.1
  have hlt : ∀ j, j < (hs ++ [hd s]).length → j < hs.length ∨ j = hs.length := fun j hj => by simp at hj; omega
  have hob : ∀ b, Fw.blk s = some b → w.heap.size ≤ b ∧ b < w1.heap.size := ho.blk
  have hrb : ∀ j b, j < hs.length → Fw.blk (Hj hs j) = some b → b < w.heap.size := fun j b hj e => ((h.row j hj).blk b e).2
  have h12 := h2.size
  have hvn : ∀ b, Fw.blk v' = some b → b = vb ∨ w2.heap.size ≤ b := fun b e => by
    rcases hg with ⟨e1, _⟩ | ⟨e1, _⟩
    · left; rw [e1, hvb] at e; cases e; rfl
    · right; exact e1 b e
  refine ⟨hv, fun j hj => ?_, fun j hj => ?_, fun i j b hi hj hij e1 e2 => ?_, fun i b hi e1 e2 => ?_⟩
  · rcases hlt j hj with hj | rfl
    · rw [Hj_app hj, if_neg (by omega)]
      exact hg.ow ((h.row j hj).up hB12) hvb fun e => h.lst j vb hj e hvb
    · rw [Hj_last, if_pos rfl, hs']
      exact hg.ow ((ho.up h2).mono hB) hvb fun e => by have := hob vb e; omega
  · rcases hlt j hj with hj | rfl
    · rw [if_neg (by omega)]; exact h.ne j hj
    · rw [if_pos rfl]; exact hl
  · rcases hlt i hi with hi | rfl <;> rcases hlt j hj with hj | rfl
    · rw [Hj_app hi] at e1; rw [Hj_app hj] at e2; exact h.two i j b hi hj hij e1 e2
    · rw [Hj_app hi] at e1; rw [Hj_last, hs'] at e2
      have := hob b e2; have := hrb i b hi e1; omega
    · rw [Hj_app hj] at e2; rw [Hj_last, hs'] at e1
      have := hob b e1; have := hrb j b hj e2; omega
    · exact hij rfl
  · have hb := hvn b e2
    rcases hlt i hi with hi | rfl
    · rw [Hj_app hi] at e1
      have := hrb i b hi e1
      rcases hb with rfl | hb
      · exact h.lst i b hi e1 hvb
      · omega
    · rw [Hj_last, hs'] at e1
      have := hob b e1
      omega
theorem Bas.blks (h : Bas B w v hs L) {j : Nat} (hj : j < hs.length) : ∃ bj bv, Fw.blk (Hj hs j) = some bj ∧ Fw.blk v = some bv ∧ bj ≠ bv ∧ bv < w.heap.size := by
  obtain ⟨bj, hbj, -⟩ := (h.row j hj).sl.blk_lt (h.ne j hj)
  obtain ⟨bv, hbv, hlt⟩ := h.own.sl.blk_lt (by rintro rfl; simp at hj)
  exact ⟨bj, bv, hbj, hbv, fun e => h.lst j bj hj hbj (e ▸ hbv), hlt⟩
theorem Bas.ext {j : Nat} {x : Hd} {l' : List α} (h : Bas B w v hs L) (hj : j < hs.length) (ho : Ow B w1 (Cell.v x) l') (hl' : l' ≠ []) (hg : w.grownBy w1 (Fw.blk (Hj hs j))) (hn : Near w (Hj hs j) (Cell.v x))
    (hv : Ow B w2 v (hs.set j x)) (hg2 : w1.grownBy w2 (Fw.blk v)) : Bas B w2 v (hs.set j x) (fun i => if i = j then l' else L i) := by
  obtain ⟨bj, bv, e1, e2, e3, hbv⟩ := h.blks hj
  have hH : ∀ i, Hj (hs.set j x) i = if i = j then Cell.v x else Hj hs i := fun i => Hj_set hj x i
  have hpb : ∀ b, Fw.blk (Cell.v x) = some b → b = bj ∨ w.heap.size ≤ b := fun b e => by
    rcases hn with h1 | h1
    · rw [e1, e] at h1; cases h1; exact Or.inl rfl
    · exact Or.inr (h1 b e)
  have hrb : ∀ i b, i < hs.length → Fw.blk (Hj hs i) = some b → b < w.heap.size := fun i b hi e => ((h.row i hi).blk b e).2
  have hlen : (hs.set j x).length = hs.length := List.length_set
  rw [e2] at hg2
  rw [e1] at hg
  refine ⟨hv, fun i hi => ?_, fun i hi => ?_, fun i k b hi hk hik a1 a2 => ?_, fun i b hi a1 a2 => ?_⟩
  · rw [hlen] at hi
    rw [hH]
    by_cases hij : i = j
    · subst hij
      rw [if_pos rfl, if_pos rfl]
      refine ho.grown hg2 fun e => ?_
      rcases hpb bv e with h1 | h1
      · exact e3 h1.symm
      · omega
    · rw [if_neg hij, if_neg hij]
      exact ((h.row i hi).grown hg fun e => h.two i j bj hi hj hij e e1).grown hg2 fun e => h.lst i bv hi e e2
  · rw [hlen] at hi
    by_cases hij : i = j
    · rw [if_pos hij]; exact hl'
    · rw [if_neg hij]; exact h.ne i hi
  · rw [hlen] at hi hk
    rw [hH] at a1 a2
    by_cases hij : i = j
    · rw [if_pos hij] at a1
      rw [if_neg (fun e => hik (hij.trans e.symm))] at a2
      rcases hpb b a1 with rfl | hb
      · exact h.two j k b hj hk (fun e => hik (hij.trans e)) e1 a2
      · have := hrb k b hk a2; omega
    · rw [if_neg hij] at a1
      by_cases hkj : k = j
      · rw [if_pos hkj] at a2
        rcases hpb b a2 with rfl | hb
        · exact h.two i j b hi hj hij a1 e1
        · have := hrb i b hi a1; omega
      · rw [if_neg hkj] at a2
        exact h.two i k b hi hk hik a1 a2
  · rw [hlen] at hi
    rw [hH] at a1
    rw [e2] at a2
    cases a2
    by_cases hij : i = j
    · rw [if_pos hij] at a1
      rcases hpb bv a1 with h1 | h1
      · exact e3 h1.symm
      · omega
    · rw [if_neg hij] at a1
      exact h.lst i bv hi a1 e2
def Off (v : Value) (hs : List Hd) (r : Nat) : Prop := (∀ j, j < hs.length → Fw.blk (Hj hs j) ≠ some r) ∧ Fw.blk v ≠ some r
theorem Bas.off (h : Bas B w v hs L) {r : Nat} (hr : r < B ∨ w.heap.size ≤ r) : Off v hs r :=
  ⟨fun j hj e => by have := (h.row j hj).blk r e; omega, fun e => by have := h.own.blk r e; omega⟩
theorem Bas.one (ho : Ow B w s l) (hl : l ≠ []) (hB : B ≤ w.heap.size) (h1 : Below w.heap.size w w') (hv : Ow w.heap.size w' v [hd s]) : Bas B w' v [hd s] (fun _ => l) := by
  have hs' : Cell.v (hd s) = s := ho.sl.hd.1
  have h0 : ∀ j, j < [hd s].length → Hj [hd s] j = s := fun j hj => by
    obtain rfl : j = 0 := by simpa using hj
    exact hs'
  refine ⟨hv.mono hB, fun j hj => ?_, fun j hj => hl, fun i j b hi hj hij => absurd (by simp at hi hj; omega) hij, fun i b hi e1 e2 => ?_⟩
  · rw [h0 j hj]; exact ho.up h1
  · rw [h0 i hi] at e1
    have := (ho.blk b e1).2
    have := (hv.blk b e2).1
    omega
/-- What was new in w1 (made since w0) still stands. -/
structure Stay (w0 w1 w : World) : Prop where
  st : Stays w0 w1 w
  sz : w1.heap.size ≤ w.heap.size
theorem Stay.refl (w0 w1 : World) : Stay w0 w1 w1 := ⟨fun _ _ _ => rfl, Nat.le_refl _⟩
theorem Stay.up {w0 : World} (h : Stay w0 w1 w) (hB : Below w.heap.size w w') : Stay w0 w1 w' :=
  ⟨fun k h1 h2 => (hB.block k (Nat.lt_of_lt_of_le h2 h.sz)).trans (h.st k h1 h2), Nat.le_trans h.sz hB.size⟩
theorem Stay.grown {w0 : World} {r : Option Nat} (h : Stay w0 w1 w) (hg : w.grownBy w' r) (hr : ∀ b, r = some b → w1.heap.size ≤ b ∨ b < w0.heap.size) : Stay w0 w1 w' :=
  ⟨fun k h1 h2 => (hg.block k (Nat.lt_of_lt_of_le h2 h.sz) (fun e => by have := hr k e.symm; omega)).trans (h.st k h1 h2), Nat.le_trans h.sz hg.size⟩
/-- The first headers, as they stood when the list was shorter. -/
theorem Grew.pre {r e : List Hd} {h : Value} {bg : Nat} (hg : Grew w w' g g') (hbg : Fw.blk g = some bg) (ho : Ow B w' g' (r ++ e)) (hr : Sl w h r) (h0 : ∃ b c, h = .slice (some ⟨b, 0, none⟩) r.length c) (hne : r ≠ []) : Sl w' h r := by
  rcases hg with ⟨e1, hg⟩ | ⟨_, hg⟩
  · by_cases hb : Fw.blk h = Fw.blk g'
    · exact ho.pre hr hb h0 hne
    · exact hr.grown hg (Or.inl (by rw [← e1]; exact hb))
  · exact hr.up hg
end
section
variable {α : Type} [Cell α] {w : World}
variable {P : Program} {d : Option Nat} {l : List D} {Q : T → World → Prop} {t : T}
end
end Go.Fw
