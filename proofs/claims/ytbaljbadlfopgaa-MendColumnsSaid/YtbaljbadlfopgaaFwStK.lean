import Derived.Test.YtbaljbadlfopgaaFwTK
import Derived.Test.YtbaljbadlfopgaaFwZK
import Derived.Test.YtbaljbadlfopgaaFwApK
set_option linter.all false
/- Slices of structs of the call's own: made, and indexed; all their cells are one block. -/
set_option linter.unusedVariables false
namespace Go.Fw
open Go Go.RowKit
variable {P : Program} {d : Option Nat} {l : List D} {Q : T → World → Prop} {t : T} {w : World}
/-- All memory below stays as it was, but one block. -/
def Kp (w : World) (b : Nat) (w' : World) : Prop := w.heap.size ≤ w'.heap.size ∧ Keep w w' (some b)
variable {w' w2 : World} {b : Nat}
theorem Kp.refl (w : World) (b : Nat) : Kp w b w := ⟨Nat.le_refl _, fun _ _ _ => rfl⟩
theorem Kp.up (h : Kp w b w') (hB : Below w'.heap.size w' w2) : Kp w b w2 :=
  ⟨Nat.le_trans h.1 hB.size, fun k hk hne => (hB.block k (Nat.lt_of_lt_of_le hk h.1)).trans (h.2 k hk hne)⟩
theorem Kp.gr (h : Kp w b w') {r : Option Nat} (hg : w'.grownBy w2 r) (hr : ∀ c, r = some c → c = b ∨ w.heap.size ≤ c) : Kp w b w2 :=
  ⟨Nat.le_trans h.1 hg.size, fun k hk hne => (hg.block k (Nat.lt_of_lt_of_le hk h.1) (fun e => by
    rcases hr k e.symm with h1 | h1
    · exact hne (by rw [h1])
    · omega)).trans (h.2 k hk hne)⟩
section
variable {α : Type} [Cell α] {B : Nat} {s : Value} {l : List α}
theorem Kp.sl (h : Kp w b w') (hs : Sl w s l) (hne : ∀ c, Fw.blk s = some c → c ≠ b) : Sl w' s l := hs.keep h.2 (fun c hc e => hne c hc (Option.some.inj e).symm)
theorem Kp.ow (h : Kp w b w') (hs : Ow B w s l) (hne : ∀ c, Fw.blk s = some c → c ≠ b) : Ow B w' s l := hs.keep h.2 (fun c hc e => hne c hc (Option.some.inj e).symm)
theorem Kp.row (h : Kp w b w') {c : Nat} {cs : List Value} (hs : Row w c cs) (hne : c ≠ b) : Row w' c cs := row_up hs (h.2 c (row_lt hs) (fun e => hne (Option.some.inj e).symm))
theorem Ow.gr' (h : Ow B w s l) {r : Option Nat} (hg : w.grownBy w' r) (hne : ∀ c, r = some c → Fw.blk s ≠ some c) : Ow B w' s l := by
  rcases h with ⟨rfl, rfl⟩ | ⟨c, cap, rest, rfl, h1, hc, hr⟩
  · exact Ow.nil B w'
  · exact Or.inr ⟨c, cap, rest, rfl, h1, hc, row_up hr (hg.block c (row_lt hr) (fun e => hne c e.symm rfl))⟩
end
end Go.Fw
