import Derived.Test.YtbaljbadlfopgaaFwXL
set_option linter.all false
/- Maps whose keys are integers of one kind: made, looked up, written. -/
set_option linter.unusedVariables false
set_option linter.unusedSimpArgs false
namespace Go.Fw
open Go Go.RowKit
def mgl (e : IntKind) (n : Int) : List MapEntry → Value
  | [] => .int e 0
  | x :: l => if toI x.key = n then x.val else mgl e n l
/-- The map at v reads as f: f n for the key n, the zero where it has none. -/
def Mi (k e : IntKind) (w : World) (v : Value) (f : Int → Value) : Prop := ∃ r ms clock, v = .map (some r) ∧ w.heap[r]? = some (.map ms clock) ∧ (∀ y ∈ ms.toList, MapKept.IsKey (.int k) y.key) ∧ ∀ n, mgl e n ms.toList = f n
theorem Mi.up {k e : IntKind} {w w' : World} {v : Value} {f : Int → Value} (h : Mi k e w v f) (hB : Below w.heap.size w w') : Mi k e w' v f := by
  obtain ⟨r, ms, c, rfl, hb, h1, h2⟩ := h
  exact ⟨r, ms, c, rfl, by rw [hB.block r (Array.getElem?_eq_some_iff.1 hb).1]; exact hb, h1, h2⟩
theorem Mi.grown {k e : IntKind} {w w' : World} {r : Nat} {f : Int → Value} {b : Option Nat} (h : Mi k e w (.map (some r)) f) (hg : w.grownBy w' b) (hn : b ≠ some r) : Mi k e w' (.map (some r)) f := by
  obtain ⟨r', ms, c, e1, hb, h1, h2⟩ := h
  cases e1
  exact ⟨r, ms, c, rfl, by rw [hg.block r (Array.getElem?_eq_some_iff.1 hb).1 (fun e => hn e.symm)]; exact hb, h1, h2⟩
section
variable {P : Program} {d : Option Nat} {l : List D} {Q : T → World → Prop} {t : T} {w : World} {k e : IntKind}
end
end Go.Fw
