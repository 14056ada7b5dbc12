import Derived.Test.YtbaljbadlfopgaaFwApW
import Derived.Test.YtbaljbadlfopgaaFwYW
set_option linter.all false
/- Slices of the call's own with something known in their spare room; rows of such. -/
set_option linter.unusedVariables false
set_option linter.unusedSimpArgs false
namespace Go.Fw
open Go Go.RowKit
/-- A slice of the call's own, and m behind it in its spare room. -/
def OwT {α : Type} [Cell α] (B : Nat) (w : World) (s : Value) (l m : List α) : Prop :=
  ∃ b cap rest, s = .slice (some ⟨b, 0, none⟩) l.length cap ∧ B ≤ b ∧ l.length + (m.length + rest.length) = cap ∧ Row w b (l.map Cell.v ++ (m.map Cell.v ++ rest))
section
variable {α : Type} [Cell α] {B : Nat} {w w' : World} {s : Value} {l m : List α}
theorem OwT.ow (h : OwT B w s l m) : Ow B w s l := by
  obtain ⟨b, cap, rest, e, h1, h2, h3⟩ := h
  exact Or.inr ⟨b, cap, m.map Cell.v ++ rest, e, h1, by simp; omega, h3⟩
theorem sub0_eq (b n cap k : Nat) : Fw.sub (.slice (some ⟨b, 0, none⟩) n cap) 0 k = .slice (some ⟨b, 0, none⟩) k cap := by
  simp only [Fw.sub, slV, Nat.sub_zero, Nat.zero_mul, Option.map_some, addr_add0, Nat.add_zero]
  split <;> rfl
theorem OwT.of (h : Ow B w s (l ++ m)) (hne : m ≠ []) : OwT B w (Fw.sub s 0 l.length) l m := by
  rcases h with ⟨_, h0⟩ | ⟨b, cap, rest, rfl, h1, hc, hr⟩
  · exact absurd (List.append_eq_nil_iff.1 h0).2 hne
  · exact ⟨b, cap, rest, sub0_eq _ _ _ _, h1, by simp at hc; omega, by rw [← List.append_assoc, ← List.map_append]; exact hr⟩
theorem OwT.whole (h : OwT B w s l m) : Ow B w (Fw.sub s 0 (l.length + m.length)) (l ++ m) := by
  obtain ⟨b, cap, rest, rfl, h1, hc, hr⟩ := h
  rw [sub0_eq]
  exact Or.inr ⟨b, cap, rest, by rw [List.length_append], h1, by rw [List.length_append]; omega, by rw [List.map_append, List.append_assoc]; exact hr⟩
theorem OwT.st (h : OwT B w s l m) {i : Nat} (hi : i < l.length) (x : α) {K : World → Prop} (hk : ∀ w', OwT B w' s (l.set i x) m → w.grownBy w' (Fw.blk s) → K w') : stK w (elP s i) (Cell.v x) K := by
  obtain ⟨b, cap, rest, rfl, h1, hc, hr⟩ := h
  simp only [stK, elP, bs, asP, addr_add0, Nat.zero_add]
  refine ⟨⟨Cell.v l[i], row_cell hr ?_⟩, row_frozen hr i, Cell.sc x, hk _ ⟨b, cap, rest, by simp, h1, by simpa using hc, ?_⟩ ?_⟩
  · rw [List.getElem?_append_left (by simpa using hi), List.getElem?_map, List.getElem?_eq_getElem hi]; rfl
  · have := setCell_row hr i (Cell.v x)
    rw [List.set_append_left _ _ (by simpa using hi), ← List.map_set] at this
    exact this
  · exact setCell_grown w _ _
theorem OwT.up (h : OwT B w s l m) (hb : Below w.heap.size w w') : OwT B w' s l m := by
  obtain ⟨b, cap, rest, rfl, h1, hc, hr⟩ := h
  exact ⟨b, cap, rest, rfl, h1, hc, row_up hr (hb.block b (row_lt hr))⟩
theorem OwT.grown (h : OwT B w s l m) {r : Option Nat} (hg : w.grownBy w' r) (hne : Fw.blk s ≠ r) : OwT B w' s l m := by
  obtain ⟨b, cap, rest, rfl, h1, hc, hr⟩ := h
  refine ⟨b, cap, rest, rfl, h1, hc, row_up hr (hg.block b (row_lt hr) ?_)⟩
  intro e; apply hne; rw [← e]; rfl
theorem OwT.mono (h : OwT B w s l m) {B' : Nat} (hB : B' ≤ B) : OwT B' w s l m := by
  obtain ⟨b, cap, rest, rfl, h1, hc, hr⟩ := h
  exact ⟨b, cap, rest, rfl, by omega, hc, hr⟩
theorem OwT.blk (h : OwT B w s l m) : ∃ b, Fw.blk s = some b ∧ B ≤ b ∧ b < w.heap.size := by
  obtain ⟨b, cap, rest, rfl, h1, hc, hr⟩ := h
  exact ⟨b, rfl, h1, row_lt hr⟩
theorem OwT.slcHi (h : OwT B w s l m) {k' : IntKind} {hi : Nat} (h2 : hi ≤ l.length + m.length) (K : Value → Prop) :
    slcK 1 s none (some (.int k' (hi : Int))) none K = K (Fw.sub s 0 hi) := by
  obtain ⟨b, cap, rest, rfl, h1, hc, hr⟩ := h
  simp only [slcK, asS, sbnd, bnd, asI, Int.toNat_natCast, Fw.sub]
  apply propext
  constructor
  · rintro ⟨_, hk⟩; exact hk
  · intro hk; exact ⟨⟨by omega, by omega⟩, hk⟩
theorem OwT.XslcHi (h : OwT B w s l m) {k' : IntKind} {hi : Nat} (h2 : hi ≤ l.length + m.length) (P : Program) (d : Option Nat) (L : List D) (Q : T → World → Prop) (t : T) (w' : World) :
    XW P (.slc 1 (.c s) none (some (.c (.int k' (hi : Int)))) none) d L Q t w' = W P Q L (put t d (Fw.sub s 0 hi)) w' := h.slcHi h2 (fun v => W P Q L (put t d v) w')
end
/-- An empty list with no room: what is appended lies in new memory, of just its size's order. -/
def Emp (B : Nat) (w : World) (s : Value) : Prop := s = .slice none 0 0 ∨ ∃ b, s = .slice (some ⟨b, 0, none⟩) 0 0 ∧ B ≤ b ∧ Row w b []
theorem Emp.nil (B : Nat) (w : World) : Emp B w (.slice none 0 0) := Or.inl rfl
theorem app_emp {α : Type} [Cell α] {B : Nat} {w0 w : World} {elem bytes : Nat} {z : Value} {s x : Value} {m : List α} {K : Value → World → Prop} (h : Emp B w s) (hx : Sl w x m) (hB : Below B w0 w) (hBs : B ≤ w.heap.size) (hb : m.length * bytes ≤ maxBytes) (hb2 : 1024 * bytes ≤ maxBytes) (hn : m.length < 4611686018427387904)
    (hk : ∀ s' w', Ow B w' s' m → Below B w0 w' → w.heap.size ≤ w'.heap.size → K s' w') : appK w elem bytes [z] s x K := by
  obtain ⟨ax, cx, rfl, hrx⟩ := hx.reads
  have hsc : ∀ u ∈ m.map (Cell.v : α → Value), scal u = true := by
    intro u hu; obtain ⟨y, _, rfl⟩ := List.mem_map.1 hu; exact Cell.sc y
  obtain ⟨a, hs⟩ : ∃ a, s = .slice a 0 0 := by rcases h with rfl | ⟨b, rfl, -⟩ <;> exact ⟨_, rfl⟩
  have hs' := hs
  subst hs
  simp only [appK, appC, asS, List.length_singleton, Nat.mul_one, Nat.zero_add]
  by_cases hm : m = []
  · subst hm
    refine ⟨[], rfl, Or.inl rfl, fun u hu => by simp at hu, ?_, by simp, ?_⟩
    · exact Or.inl (by simpa using hb2)
    · rw [if_pos (by simp)]
      rcases h with e | ⟨b, e, h1, hr⟩
      · injection e with e1
        subst e1
        exact Or.inl ⟨rfl, rfl, hk _ _ (Ow.nil B w) hB (Nat.le_refl _)⟩
      · injection e with e1
        subst e1
        have hset : splice ([] : List Value) 0 [] = [] := rfl
        refine Or.inr ⟨b, 0, [], rfl, hr, by simp, hk _ _ (Or.inr ⟨b, 0, [], rfl, h1, rfl, ?_⟩) (hB.grown (setRow_grown w b _) hBs fun c hc => by cases hc; exact h1) (setRow_grown w b _).size⟩
        rw [hset]
        exact setRow_heap_self hr
  · have hp : 0 < m.length := List.length_pos_iff.2 hm
    refine ⟨m.map Cell.v, by simp, hrx, hsc, Or.inr ⟨by omega, hb⟩, hn, ?_⟩
    rw [if_neg (by omega)]
    refine ⟨[], rfl, Or.inl rfl, fun nc hnc => ?_⟩
    have h2 := ow_alloc_room w.drew m (repL [z] (nc - m.length)) elem (n := nc) (by rw [repL_one]; simp; omega)
    simp only [List.nil_append] at h2 ⊢
    refine hk _ _ (h2.mono hBs) (hB.trans ?_) ?_
    · exact ((bel_drew w).trans (alloc_below w.drew _)).mono hBs
    · exact ((bel_drew w).trans (alloc_below w.drew _)).size
theorem Emp.Xapp {α : Type} [Cell α] {B : Nat} {w0 w : World} {P : Program} {d : Option Nat} {L : List D} {Q : T → World → Prop} {t : T} {e b : Nat} {z : Value} {s x : Value} {m : List α} (h : Emp B w s) (hx : Sl w x m) (hB : Below B w0 w) (hBs : B ≤ w.heap.size) (hb : m.length * b ≤ maxBytes) (hb2 : 1024 * b ≤ maxBytes) (hn : m.length < 4611686018427387904)
    (hk : ∀ s' w', Ow B w' s' m → Below B w0 w' → w.heap.size ≤ w'.heap.size → W P Q L (put t d s') w') : XW P (.app e b [z] (.c s) (.c x)) d L Q t w := app_emp (K := fun v w' => W P Q L (put t d v) w') h hx hB hBs hb hb2 hn hk
theorem X_bslE {w : World} {P : Program} {d : Option Nat} {L : List D} {Q : T → World → Prop} {t : T} {e : Nat} {z : List Value}
    (hk : ∀ s' w', Emp w.heap.size w' s' → Below w.heap.size w w' → W P Q L (put t d s') w') : XW P (.bsl e 0 z []) d L Q t w := by
  show W P Q L (put t d (.slice (some ⟨w.heap.size, 0, none⟩) 0 0)) (w.alloc (.cells #[] e))
  exact hk _ _ (Or.inr ⟨_, rfl, Nat.le_refl _, alloc_row w [] e⟩) (alloc_below w _)
end Go.Fw
