import Derived.Test.YtbaljbadlfopgaaFwShW
set_option linter.all false
/- Rows gathered by appending their headers (any of them may be empty); two such lists joined. -/
set_option linter.unusedVariables false
set_option linter.unusedSimpArgs false
namespace Go.Fw
open Go Go.RowKit
section
variable {α : Type} [Cell α] {B : Nat} {w w' w1 w2 w3 : World} {v v' s : Value} {l : List α} {hs : List Hd} {R : Nat → List α}
abbrev ShT (B : Nat) (v : Value) (hs : List Hd) (R : Nat → List α) (w : World) : Prop := ShM B (fun _ => True) (fun _ => []) v hs R w
theorem frm0 : Frm (fun _ => True) (fun _ => True) := ⟨fun _ _ _ _ _ _ => trivial, fun _ _ _ _ => trivial⟩
theorem ShT.up (h : ShT B v hs R w) (hB : Below w.heap.size w w') : ShT B v hs R w' := ShM.up frm0 h hB
theorem ShT.nil (h : Ow (α := Hd) B w v []) : ShT (α := α) B v [] (fun _ => []) w := ⟨h, fun j hj => absurd hj (Nat.not_lt_zero _), fun j hj => absurd hj (Nat.not_lt_zero _), fun j hj => absurd hj (Nat.not_lt_zero _), fun i j hi => absurd hi (Nat.not_lt_zero _), trivial⟩
/-- Two lists joined by one append of headers. -/
theorem ShT.app {v2 : Value} {hs2 : List Hd} {R2 : Nat → List α} {B2 : Nat} (h : ShT B v hs R w) (h2 : ShT B2 v2 hs2 R2 w) (hB : B ≤ B2) (hx : ∀ b, Fw.blk v = some b → b < B2) (hr : ∀ j (hj : j < hs.length) b, R j ≠ [] → Fw.blk (Cell.v hs[j]) = some b → b < B2)
    (hB2 : B2 ≤ w.heap.size) (hg : Grew w w' v v') (hv : Ow B w' v' (hs ++ hs2)) : ShT B v' (hs ++ hs2) (fun j => if j < hs.length then R j else R2 (j - hs.length)) w' := by
  have hsz := h2.top
  have get1 : ∀ j (hj : j < (hs ++ hs2).length) (h1 : j < hs.length), (hs ++ hs2)[j] = hs[j] := fun j hj h1 => List.getElem_append_left h1
  have get2 : ∀ j (hj : j < (hs ++ hs2).length) (h1 : ¬ j < hs.length), ∃ h3 : j - hs.length < hs2.length, (hs ++ hs2)[j] = hs2[j - hs.length] := fun j hj h1 => ⟨by rw [List.length_append] at hj; omega, List.getElem_append_right (by omega)⟩
  have keep : ∀ {x : Value} {m : List α}, OwT B w x m [] → Fw.blk x ≠ Fw.blk v → OwT B w' x m [] := fun {x m} ho hne => by
    rcases hg with ⟨_, hg⟩ | ⟨_, hg⟩
    · exact ho.grown hg hne
    · exact ho.up hg
  have hvb : ∀ b, Fw.blk v' = some b → Fw.blk v = some b ∨ w.heap.size ≤ b := fun b hb => by
    rcases hg with ⟨e, _⟩ | ⟨e, _⟩
    · left; rw [← e]; exact hb
    · right; exact e b hb
  have r2b : ∀ j (hj : j < hs2.length), R2 j ≠ [] → ∃ b, Fw.blk (Cell.v hs2[j]) = some b ∧ B2 ≤ b ∧ b < w.heap.size := fun j hj hn => (h2.row j hj hn).blk
  have r1b : ∀ j (hj : j < hs.length), R j ≠ [] → ∃ b, Fw.blk (Cell.v hs[j]) = some b ∧ b < B2 := fun j hj hn => by
    obtain ⟨b, hb, -, -⟩ := (h.row j hj hn).blk
    exact ⟨b, hb, hr j hj b hn hb⟩
  refine ⟨hv, fun j hj hn => ?_, fun j hj e => ?_, fun j hj hn e => ?_, fun i j hi hj hij a c e => ?_, trivial⟩
  · by_cases h1 : j < hs.length
    · simp only [if_pos h1] at hn ⊢
      rw [get1 j hj h1]
      exact keep (h.row j h1 hn) (h.apv j h1 hn)
    · simp only [if_neg h1] at hn ⊢
      obtain ⟨h3, e3⟩ := get2 j hj h1
      rw [e3]
      obtain ⟨b, hb, b1, b2⟩ := r2b _ h3 hn
      exact keep ((h2.row _ h3 hn).mono hB) fun e => by rw [hb] at e; have := hx b e.symm; omega
  · by_cases h1 : j < hs.length
    · simp only [if_pos h1] at e
      rw [get1 j hj h1]; exact h.emp j h1 e
    · simp only [if_neg h1] at e
      obtain ⟨h3, e3⟩ := get2 j hj h1
      rw [e3]; exact h2.emp _ h3 e
  · by_cases h1 : j < hs.length
    · simp only [if_pos h1] at hn
      rw [get1 j hj h1] at e
      obtain ⟨b, hb, b2⟩ := r1b j h1 hn
      rw [hb] at e
      rcases hvb b e.symm with h5 | h5
      · exact h.apv j h1 hn (hb.trans h5.symm)
      · omega
    · simp only [if_neg h1] at hn
      obtain ⟨h3, e3⟩ := get2 j hj h1
      rw [e3] at e
      obtain ⟨b, hb, b1, b2⟩ := r2b _ h3 hn
      rw [hb] at e
      rcases hvb b e.symm with h5 | h5
      · have := hx b h5; omega
      · omega
  · by_cases h1 : i < hs.length <;> by_cases h5 : j < hs.length
    · simp only [if_pos h1] at a
      simp only [if_pos h5] at c
      rw [get1 i hi h1, get1 j hj h5] at e
      exact h.apr i j h1 h5 hij a c e
    · simp only [if_pos h1] at a
      simp only [if_neg h5] at c
      obtain ⟨h3, e3⟩ := get2 j hj h5
      rw [get1 i hi h1, e3] at e
      obtain ⟨b, hb, b2⟩ := r1b i h1 a
      obtain ⟨b', hb', b3, -⟩ := r2b _ h3 c
      rw [hb, hb'] at e; cases e; omega
    · simp only [if_neg h1] at a
      simp only [if_pos h5] at c
      obtain ⟨h3, e3⟩ := get2 i hi h1
      rw [get1 j hj h5, e3] at e
      obtain ⟨b, hb, b2⟩ := r1b j h5 c
      obtain ⟨b', hb', b3, -⟩ := r2b _ h3 a
      rw [hb, hb'] at e; cases e; omega
    · simp only [if_neg h1] at a
      simp only [if_neg h5] at c
      obtain ⟨h3, e3⟩ := get2 i hi h1
      obtain ⟨h6, e6⟩ := get2 j hj h5
      rw [e3, e6] at e
      exact h2.apr _ _ h3 h6 (by omega) a c e
/-- One more row. -/
theorem ShT.push (h : ShT B v hs R w) (hB : B ≤ w.heap.size) (h1 : Below w.heap.size w w1) (ho : Ow w.heap.size w1 s l) (h2 : Below w1.heap.size w1 w2) (hg : Grew w2 w3 v v') (hv : Ow B w3 v' (hs ++ [hd s])) :
    ShT B v' (hs ++ [hd s]) (fun j => if j = hs.length then l else R j) w3 := by
  have hB12 : Below w.heap.size w w2 := h1.trans (h2.mono h1.size)
  have hcv : Cell.v (hd s) = s := ho.sl.hd.1
  have ho2 := ho.up h2
  have get1 : ∀ j (hj : j < (hs ++ [hd s]).length) (h1 : j < hs.length), (hs ++ [hd s])[j] = hs[j] := fun j hj h1 => List.getElem_append_left h1
  have get2 : ∀ j (hj : j < (hs ++ [hd s]).length) (h1 : ¬ j < hs.length), j = hs.length ∧ (hs ++ [hd s])[j] = hd s := fun j hj h1 => by
    have e : j = hs.length := by rw [List.length_append, List.length_singleton] at hj; omega
    subst e
    exact ⟨rfl, List.getElem_concat_length rfl _⟩
  have keep : ∀ {x : Value} {m : List α}, OwT B w2 x m [] → Fw.blk x ≠ Fw.blk v → OwT B w3 x m [] := fun {x m} ho hne => by
    rcases hg with ⟨_, hg⟩ | ⟨_, hg⟩
    · exact ho.grown hg hne
    · exact ho.up hg
  have z2 := hB12.size
  have hvb : ∀ b, Fw.blk v' = some b → Fw.blk v = some b ∨ w2.heap.size ≤ b := fun b hb => by
    rcases hg with ⟨e, _⟩ | ⟨e, _⟩
    · left; rw [← e]; exact hb
    · right; exact e b hb
  have hvlt : ∀ b, Fw.blk v = some b → b < w.heap.size := fun b hb => (h.top.blk b hb).2
  have rb : ∀ j (hj : j < hs.length), R j ≠ [] → ∃ b, Fw.blk (Cell.v hs[j]) = some b ∧ b < w.heap.size := fun j hj hn => by
    obtain ⟨b, hb, -, b2⟩ := (h.row j hj hn).blk
    exact ⟨b, hb, b2⟩
  have sb : ∀ b, Fw.blk s = some b → w.heap.size ≤ b ∧ b < w2.heap.size := fun b hb => ⟨(ho.blk b hb).1, (ho2.blk b hb).2⟩
  refine ⟨hv, fun j hj hn => ?_, fun j hj e => ?_, fun j hj hn e => ?_, fun i j hi hj hij a c e => ?_, trivial⟩
  · by_cases h5 : j < hs.length
    · simp only [if_neg (show ¬ j = hs.length by omega)] at hn ⊢
      rw [get1 j hj h5]
      exact keep ((h.row j h5 hn).up hB12) (h.apv j h5 hn)
    · obtain ⟨e1, e2⟩ := get2 j hj h5
      simp only [if_pos e1] at hn ⊢
      rw [e2, hcv]
      have ht := OwT.of0 ho2 hn
      obtain ⟨b, hb, b1, -⟩ := ht.blk
      exact keep (ht.mono hB) fun e => by rw [hb] at e; have := hvlt b e.symm; omega
  · by_cases h5 : j < hs.length
    · simp only [if_neg (show ¬ j = hs.length by omega)] at e
      rw [get1 j hj h5]; exact h.emp j h5 e
    · obtain ⟨e1, e2⟩ := get2 j hj h5
      simp only [if_pos e1] at e
      rw [e2]
      have := ho.sl.hd.2
      rw [this, e]; rfl
  · by_cases h5 : j < hs.length
    · simp only [if_neg (show ¬ j = hs.length by omega)] at hn
      rw [get1 j hj h5] at e
      obtain ⟨b, hb, b2⟩ := rb j h5 hn
      rw [hb] at e
      rcases hvb b e.symm with h7 | h7
      · exact h.apv j h5 hn (hb.trans h7.symm)
      · omega
    · obtain ⟨e1, e2⟩ := get2 j hj h5
      simp only [if_pos e1] at hn
      rw [e2, hcv] at e
      obtain ⟨b, hb, -⟩ := (OwT.of0 ho2 hn).blk
      obtain ⟨b1, b2⟩ := sb b hb
      rw [hb] at e
      rcases hvb b e.symm with h7 | h7
      · have := hvlt b h7; omega
      · omega
  · by_cases h5 : i < hs.length <;> by_cases h6 : j < hs.length
    · simp only [if_neg (show ¬ i = hs.length by omega)] at a
      simp only [if_neg (show ¬ j = hs.length by omega)] at c
      rw [get1 i hi h5, get1 j hj h6] at e
      exact h.apr i j h5 h6 hij a c e
    · obtain ⟨e1, e2⟩ := get2 j hj h6
      simp only [if_neg (show ¬ i = hs.length by omega)] at a
      simp only [if_pos e1] at c
      rw [get1 i hi h5, e2, hcv] at e
      obtain ⟨b, hb, b2⟩ := rb i h5 a
      rw [hb] at e
      have := (sb b e.symm).1
      omega
    · obtain ⟨e1, e2⟩ := get2 i hi h5
      simp only [if_neg (show ¬ j = hs.length by omega)] at c
      simp only [if_pos e1] at a
      rw [get1 j hj h6, e2, hcv] at e
      obtain ⟨b, hb, b2⟩ := rb j h6 c
      rw [hb] at e
      have := (sb b e).1
      omega
    · obtain ⟨e1, -⟩ := get2 i hi h5
      obtain ⟨e2, -⟩ := get2 j hj h6
      omega
end
end Go.Fw
