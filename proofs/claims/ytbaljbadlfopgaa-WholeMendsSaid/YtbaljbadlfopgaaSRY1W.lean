import Derived.Test.YtbaljbadlfopgaaSRX3W
import Derived.Test.YtbaljbadlfopgaaProg
import Derived.Test.YtbaljbadlfopgaaFwTW
import Derived.Test.YtbaljbadlfopgaaSMlawW
import Derived.Test.YtbaljbadlfopgaaSMawkW
set_option linter.all false
/- A near polynomial as a quotient of two whose coefficients solve linear equations. -/
set_option linter.unusedVariables false
set_option linter.unusedSimpArgs false
set_option linter.unusedSectionVars false
namespace Go.Fw
open Go
section
variable {n : Nat} [F : Fd n]
end
end Go.Fw

set_option linter.unusedVariables false
set_option linter.unusedSimpArgs false
set_option maxRecDepth 100000
set_option maxHeartbeats 1000000
namespace Go.Proofs.Ytbaljbadlfopgaa.Fw
open Go Go.Fw Go.Proofs
attribute [local irreducible] stepI
end Go.Proofs.Ytbaljbadlfopgaa.Fw
namespace Go.Proofs.Ytbaljbadlfopgaa.Fw
open Go Go.Fw
theorem frmB (w : World) : Frm (fun w' => RowKit.Below w.heap.size w w') (fun b => w.heap.size ≤ b) :=
  ⟨fun w1 w2 b h hb hg => h.grown hg h.size fun c hc => by cases hc; exact hb, fun w1 w2 h hB => h.trans (hB.mono h.size)⟩
theorem hln_le {hs : List Hd} {b : Nat} (h : ∀ j, j < hs.length → hln hs j ≤ b) : ∀ j, hln hs j ≤ b := fun j => by
  by_cases hj : j < hs.length
  · exact h j hj
  · unfold hln
    rw [List.getD_eq_getElem?_getD, List.getElem?_eq_none (by omega)]
    exact Nat.zero_le _
theorem mok_prm {f k m : Int} {L : Nat → Nat} {n len : Nat} (h : MOk f k m L n len) : (f = 0 ∨ f = 1) ∧ 1 ≤ k ∧ 1 ≤ m ∧ k ≤ 256 ∧ m ≤ 256 ∧ k + m ≤ 256 := ⟨h.hf, h.hk, h.hm, by have := h.hm; have := h.km; omega, by have := h.hk; have := h.km; omega, h.km⟩
end Go.Proofs.Ytbaljbadlfopgaa.Fw

set_option linter.unusedVariables false
set_option linter.unusedSimpArgs false
set_option maxRecDepth 100000
set_option maxHeartbeats 1000000
namespace Go.Proofs.Ytbaljbadlfopgaa.Fw
open Go Go.Fw Go.Proofs
attribute [local irreducible] stepI
end Go.Proofs.Ytbaljbadlfopgaa.Fw
namespace Go.Proofs.Ytbaljbadlfopgaa.Fw
open Go Go.Fw
theorem frmB_D {w : World} {Tm : Nat → List (El 8)} {v : Value} {hs : List Hd} {R : Nat → List (El 8)} {w' : World} {F : World → Prop} (h : ShM w.heap.size F Tm v hs R w') : ∀ j (hj : j < hs.length) b, R j ≠ [] → Fw.blk (Cell.v hs[j]) = some b → w.heap.size ≤ b := fun j hj b hn hb => by
  obtain ⟨c, hc, hc1, -⟩ := (h.row j hj hn).blk
  rw [hc] at hb; cases hb; exact hc1
theorem ne_of_len {l : List (El 8)} {n : Nat} (h : l.length = n) (hn : 0 < n) : l ≠ [] := fun e => by rw [e] at h; simp at h; omega
end Go.Proofs.Ytbaljbadlfopgaa.Fw

set_option linter.unusedVariables false
set_option linter.unusedSimpArgs false
set_option maxRecDepth 100000
set_option maxHeartbeats 1000000
namespace Go.Proofs.Ytbaljbadlfopgaa.Fw
open Go Go.Fw Go.Proofs
attribute [local irreducible] stepI
end Go.Proofs.Ytbaljbadlfopgaa.Fw
namespace Go.Proofs.Ytbaljbadlfopgaa.Fw
open Go Go.Fw
end Go.Proofs.Ytbaljbadlfopgaa.Fw

set_option linter.unusedVariables false
set_option linter.unusedSimpArgs false
set_option maxRecDepth 100000
set_option maxHeartbeats 1000000
namespace Go.Proofs.Ytbaljbadlfopgaa.Fw
open Go Go.Fw Go.Proofs
attribute [local irreducible] stepI
end Go.Proofs.Ytbaljbadlfopgaa.Fw
namespace Go.Proofs.Ytbaljbadlfopgaa.Fw
open Go Go.Fw
end Go.Proofs.Ytbaljbadlfopgaa.Fw
