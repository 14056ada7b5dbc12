import Derived.Test.YtbaljbadlfopgaaFwTlW
set_option linter.all false
/- Lists of the call's own, told apart by the stretch of the memory in which they were made. -/
set_option linter.unusedVariables false
set_option linter.unusedSimpArgs false
namespace Go.Fw
open Go Go.RowKit
/-- A list of the call's own in the blocks from lo on, below hi. -/
structure Seg {α : Type} [Cell α] (lo hi : Nat) (w : World) (s : Value) (l : List α) : Prop where
  own : Ow lo w s l
  top : ∀ b, Fw.blk s = some b → b < hi
section
variable {α : Type} [Cell α] {lo hi : Nat} {w w' : World} {s : Value} {l : List α}
theorem Seg.of {w0 : World} (h : Ow w0.heap.size w s l) : Seg w0.heap.size w.heap.size w s l := ⟨h, fun b hb => (h.blk b hb).2⟩
theorem Seg.low (h : Seg lo hi w s l) : ∀ b, Fw.blk s = some b → lo ≤ b := fun b hb => (h.own.blk b hb).1
theorem Seg.sl (h : Seg lo hi w s l) : Sl w s l := h.own.sl
theorem Seg.up (h : Seg lo hi w s l) (hB : Below w.heap.size w w') : Seg lo hi w' s l := ⟨h.own.up hB, h.top⟩
theorem Seg.grown (h : Seg lo hi w s l) {c : Nat} (hg : w.grownBy w' (some c)) (hc : c < lo ∨ hi ≤ c) : Seg lo hi w' s l :=
  ⟨h.own.grown hg (fun e => by have := h.low c e; have := h.top c e; omega), h.top⟩
theorem Seg.mono (h : Seg lo hi w s l) {lo' hi' : Nat} (h1 : lo' ≤ lo) (h2 : hi ≤ hi') : Seg lo' hi' w s l := ⟨h.own.mono h1, fun b hb => Nat.lt_of_lt_of_le (h.top b hb) h2⟩
theorem Seg.st (h : Seg lo hi w s l) {i : Nat} (hi' : i < l.length) (x : α) {K : World → Prop} (hk : ∀ w' c, Seg lo hi w' s (l.set i x) → w.grownBy w' (some c) → lo ≤ c → c < hi → K w') : stK w (elP s i) (Cell.v x) K := by
  obtain ⟨b, hb, -⟩ := h.own.sl.blk_lt (by rintro rfl; simp at hi')
  exact st_ow h.own hi' x fun w' ho hg => hk w' b ⟨ho, h.top⟩ (hb ▸ hg) (h.low b hb) (h.top b hb)
theorem Seg.Xst {P : Program} {d : Option Nat} {L : List D} {Q : T → World → Prop} {t : T} (h : Seg lo hi w s l) {i : Nat} (hi' : i < l.length) (x : α) (hk : ∀ w' c, Seg lo hi w' s (l.set i x) → w.grownBy w' (some c) → lo ≤ c → c < hi → W P Q L (put t d undef) w') :
    XW P (.st (.c (elP s i)) (.c (Cell.v x))) d L Q t w := h.st hi' x (K := fun w' => W P Q L (put t d undef) w') hk
theorem Seg.Est {P : Program} {d : Option Nat} {L : List D} {Q : T → World → Prop} {t : T} {n_ : Nat} {u_ : List Nat} {rs_ : List RN} {es_ : List EN} (h : Seg lo hi w s l) {i : Nat} (hi' : i < l.length) (x : α)
    (hk : ∀ w' c, Seg lo hi w' s (l.set i x) → w.grownBy w' (some c) → lo ≤ c → c < hi → okR P u_ w' rs_ ∧ WE P Q L rs_ ((n_, w) :: es_) (put t d undef) w') :
    XE P n_ (.st (.c (elP s i)) (.c (Cell.v x))) u_ d L Q rs_ es_ t w := XE_eff rfl (h.st hi' x hk)
end
/-- Rows of the call's own, with the list of their headers, all in one stretch. -/
structure Rg {α : Type} [Cell α] (lo hi : Nat) (w : World) (v : Value) (hs : List Hd) (R : Nat → List α) : Prop where
  top : Seg lo hi w v hs
  row : ∀ j (hj : j < hs.length), Seg lo hi w (Cell.v hs[j]) (R j)
  ap : Apart v hs
section
variable {α : Type} [Cell α] {lo hi : Nat} {w w' : World} {v : Value} {hs : List Hd} {R : Nat → List α}
theorem Rg.up (h : Rg lo hi w v hs R) (hB : Below w.heap.size w w') : Rg lo hi w' v hs R := ⟨h.top.up hB, fun j hj => (h.row j hj).up hB, h.ap⟩
theorem Rg.grown (h : Rg lo hi w v hs R) {c : Nat} (hg : w.grownBy w' (some c)) (hc : c < lo ∨ hi ≤ c) : Rg lo hi w' v hs R := ⟨h.top.grown hg hc, fun j hj => (h.row j hj).grown hg hc, h.ap⟩
theorem Rg.mono (h : Rg lo hi w v hs R) {lo' hi' : Nat} (h1 : lo' ≤ lo) (h2 : hi ≤ hi') : Rg lo' hi' w v hs R := ⟨h.top.mono h1 h2, fun j hj => (h.row j hj).mono h1 h2, h.ap⟩
theorem Rg.congr (h : Rg lo hi w v hs R) {R' : Nat → List α} (he : ∀ j, j < hs.length → R' j = R j) : Rg lo hi w v hs R' := ⟨h.top, fun j hj => by rw [he j hj]; exact h.row j hj, h.ap⟩
/-- Writing into a row. -/
theorem Rg.st (h : Rg lo hi w v hs R) {j i : Nat} (hj : j < hs.length) (hi' : i < (R j).length) (x : α) {K : World → Prop} (hk : ∀ w' c, Rg lo hi w' v hs (fun y => if y = j then (R j).set i x else R y) → w.grownBy w' (some c) → lo ≤ c → c < hi → K w') : stK w (elP (Cell.v hs[j]) i) (Cell.v x) K := by
  obtain ⟨b, hb, -⟩ := (h.row j hj).own.sl.blk_lt (by intro e; rw [e] at hi'; simp at hi')
  refine st_ow (h.row j hj).own hi' x fun w' ho hg => hk w' b ⟨?_, fun y hy => ?_, h.ap⟩ (hb ▸ hg) ((h.row j hj).low b hb) ((h.row j hj).top b hb)
  · exact ⟨h.top.own.grown hg (by rw [hb]; exact h.ap.list j hj b hb), h.top.top⟩
  · by_cases hyj : y = j
    · subst hyj; rw [if_pos rfl]; exact ⟨ho, (h.row y hy).top⟩
    · rw [if_neg hyj]
      exact ⟨(h.row y hy).own.grown hg (by rw [hb]; exact h.ap.two j y hj hy b (fun e => hyj e.symm) hb), (h.row y hy).top⟩
theorem Rg.Xst {P : Program} {d : Option Nat} {L : List D} {Q : T → World → Prop} {t : T} (h : Rg lo hi w v hs R) {j i : Nat} (hj : j < hs.length) (hi' : i < (R j).length) (x : α) (hk : ∀ w' c, Rg lo hi w' v hs (fun y => if y = j then (R j).set i x else R y) → w.grownBy w' (some c) → lo ≤ c → c < hi → W P Q L (put t d undef) w') :
    XW P (.st (.c (elP (Cell.v hs[j]) i)) (.c (Cell.v x))) d L Q t w := h.st hj hi' x (K := fun w' => W P Q L (put t d undef) w') hk
theorem Rg.Est {P : Program} {d : Option Nat} {L : List D} {Q : T → World → Prop} {t : T} {n_ : Nat} {u_ : List Nat} {rs_ : List RN} {es_ : List EN} (h : Rg lo hi w v hs R) {j i : Nat} (hj : j < hs.length) (hi' : i < (R j).length) (x : α)
    (hk : ∀ w' c, Rg lo hi w' v hs (fun y => if y = j then (R j).set i x else R y) → w.grownBy w' (some c) → lo ≤ c → c < hi → okR P u_ w' rs_ ∧ WE P Q L rs_ ((n_, w) :: es_) (put t d undef) w') :
    XE P n_ (.st (.c (elP (Cell.v hs[j]) i)) (.c (Cell.v x))) u_ d L Q rs_ es_ t w := XE_eff rfl (h.st hj hi' x hk)
/-- Made by a loop: the list of the headers laid first, then row by row. -/
theorem Rg.of {B0 lo' : Nat} {G : List Hd} {E : List (Value × List α)} {n : Nat} (og : Ow B0 w v G) (hv : ∀ b, Fw.blk v = some b → b < lo') (hL : Lst lo' E w) (h01 : B0 ≤ lo') (lG : G.length = n) (hE : ∀ j, j < n → ∃ e, E[j]? = some (e, R j) ∧ Hj G j = e) : Rg B0 w.heap.size w v G R := by
  have gT : ∀ j (hj : j < G.length), ∃ e, E[j]? = some (e, R j) ∧ Cell.v G[j] = e := fun j hj => by
    obtain ⟨e, he1, he2⟩ := hE j (by omega)
    exact ⟨e, he1, by rw [← Hj_get hj]; exact he2⟩
  refine ⟨⟨og, fun b hb => (og.blk b hb).2⟩, fun j hj => ?_, ⟨fun x c hx hc b hxc hb1 hb2 => ?_, fun x hx b hb1 hb2 => ?_⟩⟩
  · obtain ⟨e, he1, he2⟩ := gT j hj
    rw [he2]
    have ho := hL.ow j _ he1
    exact ⟨ho.mono h01, fun b hb => (ho.blk b hb).2⟩
  · obtain ⟨e, he1, he2⟩ := gT x hx
    obtain ⟨f, hf1, hf2⟩ := gT c hc
    rw [he2] at hb1
    rw [hf2] at hb2
    exact hL.ap x c _ _ b he1 hf1 hxc hb1 hb2
  · obtain ⟨e, he1, he2⟩ := gT x hx
    rw [he2] at hb1
    have := ((hL.ow x _ he1).blk b hb1).1
    have := hv b hb2
    omega
/-- Lists in unlike stretches, gathered. -/
theorem Lst.one {B : Nat} {s : Value} {l : List α} (h : Ow B w s l) : Lst B [(s, l)] w := by
  have he : ∀ (j : Nat) (e : Value × List α), [(s, l)][j]? = some e → j = 0 ∧ e = (s, l) := fun j e he => by
    cases j with
    | zero => exact ⟨rfl, by simpa using he.symm⟩
    | succ j => simp at he
  refine ⟨fun j e h1 => ?_, fun j m e f b h1 h2 hjm => ?_⟩
  · obtain ⟨-, rfl⟩ := he j e h1; exact h
  · obtain ⟨h3, -⟩ := he j e h1
    obtain ⟨h4, -⟩ := he m f h2
    omega
theorem Lst.app {B : Nat} {E1 E2 : List (Value × List α)} (h1 : Lst B E1 w) (h2 : Lst B E2 w) (hx : ∀ e ∈ E1, ∀ f ∈ E2, ∀ b, Fw.blk e.1 = some b → Fw.blk f.1 ≠ some b) : Lst B (E1 ++ E2) w := by
  have hc : ∀ (j : Nat) (e : Value × List α), (E1 ++ E2)[j]? = some e → (j < E1.length ∧ E1[j]? = some e) ∨ (E1.length ≤ j ∧ E2[j - E1.length]? = some e) := fun j e he => by
    by_cases hj : j < E1.length
    · rw [List.getElem?_append_left hj] at he; exact Or.inl ⟨hj, he⟩
    · rw [List.getElem?_append_right (by omega)] at he; exact Or.inr ⟨by omega, he⟩
  refine ⟨fun j e he => ?_, fun j m e f b he hf hjm hb => ?_⟩
  · rcases hc j e he with ⟨_, h⟩ | ⟨_, h⟩
    · exact h1.ow j e h
    · exact h2.ow _ e h
  · rcases hc j e he with ⟨a1, h⟩ | ⟨a1, h⟩ <;> rcases hc m f hf with ⟨a2, h'⟩ | ⟨a2, h'⟩
    · exact h1.ap j m e f b h h' hjm hb
    · exact hx e (List.mem_of_getElem? h) f (List.mem_of_getElem? h') b hb
    · exact fun hb2 => hx f (List.mem_of_getElem? h') e (List.mem_of_getElem? h) b hb2 hb
    · exact h2.ap _ _ e f b h h' (by omega) hb
def rowsE {α : Type} (hs : List Hd) (R : Nat → List α) : List (Value × List α) := (List.range hs.length).map fun j => (Hj hs j, R j)
theorem rowsE_get {j : Nat} {e : Value × List α} (h : (rowsE hs R)[j]? = some e) : ∃ hj : j < hs.length, e = (Cell.v hs[j], R j) := by
  have hj : j < (rowsE hs R).length := (List.getElem?_eq_some_iff.1 h).1
  have hj : j < hs.length := by simpa [rowsE] using hj
  unfold rowsE at h
  rw [List.getElem?_map, List.getElem?_range hj] at h
  simp only [Option.map_some, Option.some.injEq] at h
  exact ⟨hj, by rw [← h, Hj_get hj]⟩
theorem hd_v (x : Hd) : hd (Cell.v x) = x := rfl
theorem Rg.lst (h : Rg lo hi w v hs R) : Lst lo (rowsE hs R) w := by
  refine ⟨fun j e he => ?_, fun j m e f b he hf hjm hb => ?_⟩
  · obtain ⟨hj, rfl⟩ := rowsE_get he; exact (h.row j hj).own
  · obtain ⟨hj, rfl⟩ := rowsE_get he
    obtain ⟨hm, rfl⟩ := rowsE_get hf
    exact h.ap.two j m hj hm b hjm hb
theorem Lst.mono {B B' : Nat} {E : List (Value × List α)} (h : Lst B E w) (hB : B' ≤ B) : Lst B' E w := ⟨fun j e he => (h.ow j e he).mono hB, h.ap⟩
end
/-- Nothing but the blocks from lo to hi and new ones is written. -/
structure Out (lo hi : Nat) (w w' : World) : Prop where
  sz : w.heap.size ≤ w'.heap.size
  eq : ∀ k, k < w.heap.size → k < lo ∨ hi ≤ k → w'.heap[k]? = w.heap[k]?
theorem Out.refl (lo hi : Nat) (w : World) : Out lo hi w w := ⟨Nat.le_refl _, fun _ _ _ => rfl⟩
theorem Out.grown {lo hi : Nat} {w w' w2 : World} (h : Out lo hi w w') {c : Nat} (hg : w'.grownBy w2 (some c)) (h1 : lo ≤ c) (h2 : c < hi) : Out lo hi w w2 :=
  ⟨Nat.le_trans h.sz hg.size, fun k hk hc => (hg.block k (Nat.lt_of_lt_of_le hk h.sz) (by intro e; cases e; omega)).trans (h.eq k hk hc)⟩
theorem Out.below {lo hi : Nat} {w w' w2 : World} (h : Out lo hi w w') (hB : Below w'.heap.size w' w2) : Out lo hi w w2 :=
  ⟨Nat.le_trans h.sz hB.size, fun k hk hc => (hB.block k (Nat.lt_of_lt_of_le hk h.sz)).trans (h.eq k hk hc)⟩
section
variable {α : Type} [Cell α] {lo hi lo' hi' : Nat} {w w' : World} {s v : Value} {l : List α} {hs : List Hd} {R : Nat → List α}
end
end Go.Fw
