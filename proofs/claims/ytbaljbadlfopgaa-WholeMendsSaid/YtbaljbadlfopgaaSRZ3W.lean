import Derived.Test.YtbaljbadlfopgaaProg
import Derived.Test.YtbaljbadlfopgaaFwTW
import Derived.Test.YtbaljbadlfopgaaSRY1W
set_option linter.all false
set_option linter.unusedVariables false
set_option linter.unusedSimpArgs false
set_option maxRecDepth 100000
set_option maxHeartbeats 1000000
namespace Go.Proofs.Ytbaljbadlfopgaa.Fw
open Go Go.Fw Go.Proofs
attribute [local irreducible] stepI
end Go.Proofs.Ytbaljbadlfopgaa.Fw
namespace Go.Proofs.Ytbaljbadlfopgaa.Fw
open Go Go.Fw
end Go.Proofs.Ytbaljbadlfopgaa.Fw

set_option linter.unusedVariables false
set_option linter.unusedSimpArgs false
set_option maxRecDepth 100000
set_option maxHeartbeats 1000000
namespace Go.Proofs.Ytbaljbadlfopgaa.Fw
open Go Go.Fw Go.Proofs
attribute [local irreducible] stepI
end Go.Proofs.Ytbaljbadlfopgaa.Fw
namespace Go.Proofs.Ytbaljbadlfopgaa.Fw
open Go Go.Fw
end Go.Proofs.Ytbaljbadlfopgaa.Fw

set_option linter.unusedVariables false
set_option linter.unusedSimpArgs false
set_option maxRecDepth 100000
set_option maxHeartbeats 1000000
namespace Go.Proofs.Ytbaljbadlfopgaa.Fw
open Go Go.Fw Go.Proofs
attribute [local irreducible] stepI
end Go.Proofs.Ytbaljbadlfopgaa.Fw
namespace Go.Proofs.Ytbaljbadlfopgaa.Fw
open Go Go.Fw
theorem Lns.uniq {L : Nat → Nat} {n len len' : Nat} {ev ev' : Bool} (h : Lns L n len ev) (h' : Lns L n len' ev') (hev : ev = true ∨ ev' = true) : len = len' ∧ ev = ev' := by
  have key : ∀ {len len' : Nat} {ev ev' : Bool}, Lns L n len ev → Lns L n len' ev' → ev = true → len = len' ∧ ev' = true := fun {len len' ev ev'} h h' he => by
    have hl : len = len' := by
      by_cases h0 : len = 0
      · rw [h0]; exact (h'.z.2 (h.z.1 h0)).symm
      · by_cases h0' : len' = 0
        · exact absurd (h.z.2 (h'.z.1 h0')) h0
        · obtain ⟨j, hj, e⟩ := h'.m h0'
          rcases h.e.1 he j hj with e2 | e2
          · omega
          · omega
    subst hl
    exact ⟨rfl, h'.e.2 (h.e.1 he)⟩
  rcases hev with he | he
  · obtain ⟨a, b⟩ := key h h' he
    exact ⟨a, by rw [he, b]⟩
  · obtain ⟨a, b⟩ := key h' h he
    exact ⟨a.symm, by rw [he, b]⟩
theorem wer_uniq {f k m : Int} {L : Nat → Nat} {n len len' : Nat} {ev ev' : Bool} (h : cnt f k m n = 0 → Lns L n len ev) (h' : cnt f k m n = 0 → Lns L n len' ev') : wer f k m L n len ev = wer f k m L n len' ev' := by
  unfold wer
  by_cases hf : f = 0 ∨ f = 1
  · rw [if_pos hf, if_pos hf]
    unfold prt
    by_cases h0 : cnt f k m n = 0
    · simp only [ne_eq, h0, not_true_eq_false, if_false]
      have a := h h0
      have b := h' h0
      by_cases hev : ev = true ∨ ev' = true
      · obtain ⟨rfl, rfl⟩ := a.uniq b hev
        rfl
      · have e1 : ev = false := by cases ev; rfl; exact absurd (Or.inl rfl) hev
        have e2 : ev' = false := by cases ev'; rfl; exact absurd (Or.inr rfl) hev
        subst e1 e2
        by_cases hl : len = 0
        · have := b.z.2 (a.z.1 hl)
          simp only [hl, this, if_true]
        · have h9 : len' ≠ 0 := fun e => hl (a.z.2 (b.z.1 e))
          simp only [hl, h9, if_false, if_true]
    · simp only [ne_eq, h0, not_false_eq_true, if_true]
  · rw [if_neg hf, if_neg hf]
end Go.Proofs.Ytbaljbadlfopgaa.Fw

set_option linter.unusedVariables false
set_option linter.unusedSimpArgs false
set_option maxRecDepth 100000
set_option maxHeartbeats 1000000
namespace Go.Proofs.Ytbaljbadlfopgaa.Fw
open Go Go.Fw Go.Proofs
attribute [local irreducible] stepI
end Go.Proofs.Ytbaljbadlfopgaa.Fw
namespace Go.Proofs.Ytbaljbadlfopgaa.Fw
open Go Go.Fw
theorem ShM.grO {B : Nat} {F : World → Prop} {Df : Nat → Prop} {Tm : Nat → List (El 8)} {v : Value} {hs : List Hd} {R : Nat → List (El 8)} {w w' : World} (hF : Frm F Df) (h : ShM B F Tm v hs R w) {c : Nat} (hg : w.grownBy w' (some c)) (hD : Df c) (hv : Fw.blk v ≠ some c) (hr : ∀ j (hj : j < hs.length), R j ≠ [] → Fw.blk (Cell.v hs[j]) ≠ some c) : ShM B F Tm v hs R w' :=
  ⟨h.top.gr' hg fun x hx => by cases hx; exact hv, fun j hj hn => (h.row j hj hn).grown hg (hr j hj hn), h.emp, h.apv, h.apr, hF.gr _ _ c h.frm hD hg⟩
end Go.Proofs.Ytbaljbadlfopgaa.Fw
