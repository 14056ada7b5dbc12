import Derived.Test.YtbaljbadlfopgaaFwXW
set_option linter.all false
/- Answers gathered: each in memory of its own. -/
set_option linter.unusedVariables false
set_option linter.unusedSimpArgs false
namespace Go.Fw
open Go Go.RowKit
structure Lst {α : Type} [Cell α] (B : Nat) (E : List (Value × List α)) (w : World) : Prop where
  ow : ∀ (j : Nat) (e : Value × List α), E[j]? = some e → Ow B w e.1 e.2
  ap : ∀ (j m : Nat) (e f : Value × List α) (b : Nat), E[j]? = some e → E[m]? = some f → j ≠ m → Fw.blk e.1 = some b → Fw.blk f.1 ≠ some b
section
variable {α : Type} [Cell α] {B : Nat} {E : List (Value × List α)} {w w' : World}
theorem Lst.nil (B : Nat) (w : World) : Lst B ([] : List (Value × List α)) w := ⟨fun j e h => by simp at h, fun j m e f b h => by simp at h⟩
theorem Lst.up (h : Lst B E w) (hB : Below w.heap.size w w') : Lst B E w' := ⟨fun j e he => (h.ow j e he).up hB, h.ap⟩
theorem Lst.push (h : Lst B E w) (hB : Below w.heap.size w w') (hs : B ≤ w.heap.size) {s : Value} {l : List α} (ho : Ow w.heap.size w' s l) : Lst B (E ++ [(s, l)]) w' := by
  have hnew : ∀ (j : Nat) (e : Value × List α), (E ++ [(s, l)])[j]? = some e → (j < E.length ∧ E[j]? = some e) ∨ (j = E.length ∧ e = (s, l)) := fun j e he => by
    by_cases hj : j < E.length
    · rw [List.getElem?_append_left hj] at he; exact Or.inl ⟨hj, he⟩
    · have := (List.getElem?_eq_some_iff.1 he).1
      simp at this
      have hje : j = E.length := by omega
      subst hje
      rw [List.getElem?_append_right (Nat.le_refl _)] at he
      simp at he
      exact Or.inr ⟨rfl, he.symm⟩
  refine ⟨fun j e he => ?_, fun j m e f b he hf hjm hb => ?_⟩
  · rcases hnew j e he with ⟨_, h1⟩ | ⟨_, rfl⟩
    · exact (h.ow j e h1).up hB
    · exact ho.mono hs
  · rcases hnew j e he with ⟨g1, h1⟩ | ⟨g1, rfl⟩
    · rcases hnew m f hf with ⟨g2, h2⟩ | ⟨g2, rfl⟩
      · exact h.ap j m e f b h1 h2 hjm hb
      · intro e2
        have := ((h.ow j e h1).blk b hb).2
        have := (ho.blk b e2).1
        omega
    · rcases hnew m f hf with ⟨g2, h2⟩ | ⟨g2, rfl⟩
      · intro e2
        have := ((h.ow m f h2).blk b e2).2
        have := (ho.blk b hb).1
        omega
      · omega
theorem Lst.grown (h : Lst B E w) {r : Nat} (hr : r < B) (hg : w.grownBy w' (some r)) : Lst B E w' :=
  ⟨fun j e he => (h.ow j e he).grown hg (fun e2 => by have := ((h.ow j e he).blk r e2).1; omega), h.ap⟩
theorem Lst.skip {E1 E2 : List (Value × List α)} {x : Value × List α} (h : Lst B (E1 ++ x :: E2) w) : Lst B (E1 ++ E2) w ∧ ∀ (j : Nat) (e : Value × List α) (b : Nat), (E1 ++ E2)[j]? = some e → Fw.blk e.1 = some b → Fw.blk x.1 ≠ some b := by
  have hσ : ∀ (j : Nat) (e : Value × List α), (E1 ++ E2)[j]? = some e → (E1 ++ x :: E2)[if j < E1.length then j else j + 1]? = some e := fun j e he => by
    by_cases hj : j < E1.length
    · rw [if_pos hj, List.getElem?_append_left hj]; rwa [List.getElem?_append_left hj] at he
    · rw [if_neg hj, List.getElem?_append_right (by omega)]
      rw [List.getElem?_append_right (by omega)] at he
      rw [show j + 1 - E1.length = (j - E1.length) + 1 by omega, List.getElem?_cons_succ]
      exact he
  have hx : (E1 ++ x :: E2)[E1.length]? = some x := by rw [List.getElem?_append_right (Nat.le_refl _), Nat.sub_self]; rfl
  refine ⟨⟨fun j e he => h.ow _ e (hσ j e he), fun j m e f b he hf hjm hb => h.ap _ _ e f b (hσ j e he) (hσ m f hf) (by split <;> split <;> omega) hb⟩, fun j e b he hb => h.ap _ _ e x b (hσ j e he) hx (by split <;> omega) hb⟩
end
end Go.Fw
