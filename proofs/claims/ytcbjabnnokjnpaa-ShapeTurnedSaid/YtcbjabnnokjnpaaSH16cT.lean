import Derived.Test.YtcbjabnnokjnpaaProg
import Derived.Test.YtcbjabnnokjnpaaFwTT
import Derived.Test.YtcbjabnnokjnpaaSH16bT
import Derived.Test.YtcbjabnnokjnpaaSPx0T
set_option linter.all false
set_option linter.unusedVariables false
set_option linter.unusedSimpArgs false
set_option maxRecDepth 100000
set_option maxHeartbeats 1000000
namespace Go.Proofs.Ytcbjabnnokjnpaa.Fw
open Go Go.Fw Go.Proofs
attribute [local irreducible] stepI

end Go.Proofs.Ytcbjabnnokjnpaa.Fw
namespace Go.Proofs.Ytcbjabnnokjnpaa.Fw
open Go Go.Fw
theorem row8_1 {w : World} {b : Nat} {a0 a1 a2 a3 a4 a5 a6 a7 : Value} (h : Row w b [a0, a1, a2, a3, a4, a5, a6, a7]) (P : Program) (d : Option Nat) (l : List D) (Q : T → World → Prop) (t : T) : XW P (.ld (.c (.pointer (some ⟨b, 1, none⟩)))) d l Q t w = W P Q l (put t d a1) w := h.Xld (o := 1) (by simp) P d l Q t
theorem row8_2 {w : World} {b : Nat} {a0 a1 a2 a3 a4 a5 a6 a7 : Value} (h : Row w b [a0, a1, a2, a3, a4, a5, a6, a7]) (P : Program) (d : Option Nat) (l : List D) (Q : T → World → Prop) (t : T) : XW P (.ld (.c (.pointer (some ⟨b, 2, none⟩)))) d l Q t w = W P Q l (put t d a2) w := h.Xld (o := 2) (by simp) P d l Q t
theorem row8_3 {w : World} {b : Nat} {a0 a1 a2 a3 a4 a5 a6 a7 : Value} (h : Row w b [a0, a1, a2, a3, a4, a5, a6, a7]) (P : Program) (d : Option Nat) (l : List D) (Q : T → World → Prop) (t : T) : XW P (.ld (.c (.pointer (some ⟨b, 3, none⟩)))) d l Q t w = W P Q l (put t d a3) w := h.Xld (o := 3) (by simp) P d l Q t
theorem row8_5 {w : World} {b : Nat} {a0 a1 a2 a3 a4 a5 a6 a7 : Value} (h : Row w b [a0, a1, a2, a3, a4, a5, a6, a7]) (P : Program) (d : Option Nat) (l : List D) (Q : T → World → Prop) (t : T) : XW P (.ld (.c (.pointer (some ⟨b, 5, none⟩)))) d l Q t w = W P Q l (put t d a5) w := h.Xld (o := 5) (by simp) P d l Q t
section
variable {n_ : Nat} {u_ : List Nat} {rs_ : List RN} {es_ : List EN}
theorem row8e_2 {w : World} {b : Nat} {a0 a1 a2 a3 a4 a5 a6 a7 : Value} (h : Row w b [a0, a1, a2, a3, a4, a5, a6, a7]) (P : Program) (d : Option Nat) (l : List D) (Q : T → World → Prop) (t : T) : XE P n_ (.ld (.c (.pointer (some ⟨b, 2, none⟩)))) u_ d l Q rs_ es_ t w = (okE P (.ld (.c (.pointer (some ⟨b, 2, none⟩)))) a2 u_ es_ ∧ WE P Q l ((n_, (.ld (.c (.pointer (some ⟨b, 2, none⟩)))), a2) :: rs_) es_ (put t d a2) w) := by
  have := h.Eld (o := 2) (by simp) P d l Q t (n_ := n_) (u_ := u_) (rs_ := rs_) (es_ := es_)
  exact this
theorem row8s_2 {w : World} {b : Nat} {a0 a1 a2 a3 a4 a5 a6 a7 : Value} (h : Row w b [a0, a1, a2, a3, a4, a5, a6, a7]) (P : Program) : Fw.sees P (.ld (.c (.pointer (some ⟨b, 2, none⟩)))) w a2 = True := h.sees (o := 2) (by simp) P
theorem row8e_3 {w : World} {b : Nat} {a0 a1 a2 a3 a4 a5 a6 a7 : Value} (h : Row w b [a0, a1, a2, a3, a4, a5, a6, a7]) (P : Program) (d : Option Nat) (l : List D) (Q : T → World → Prop) (t : T) : XE P n_ (.ld (.c (.pointer (some ⟨b, 3, none⟩)))) u_ d l Q rs_ es_ t w = (okE P (.ld (.c (.pointer (some ⟨b, 3, none⟩)))) a3 u_ es_ ∧ WE P Q l ((n_, (.ld (.c (.pointer (some ⟨b, 3, none⟩)))), a3) :: rs_) es_ (put t d a3) w) := by
  have := h.Eld (o := 3) (by simp) P d l Q t (n_ := n_) (u_ := u_) (rs_ := rs_) (es_ := es_)
  exact this
theorem row8s_3 {w : World} {b : Nat} {a0 a1 a2 a3 a4 a5 a6 a7 : Value} (h : Row w b [a0, a1, a2, a3, a4, a5, a6, a7]) (P : Program) : Fw.sees P (.ld (.c (.pointer (some ⟨b, 3, none⟩)))) w a3 = True := h.sees (o := 3) (by simp) P
theorem row8e_5 {w : World} {b : Nat} {a0 a1 a2 a3 a4 a5 a6 a7 : Value} (h : Row w b [a0, a1, a2, a3, a4, a5, a6, a7]) (P : Program) (d : Option Nat) (l : List D) (Q : T → World → Prop) (t : T) : XE P n_ (.ld (.c (.pointer (some ⟨b, 5, none⟩)))) u_ d l Q rs_ es_ t w = (okE P (.ld (.c (.pointer (some ⟨b, 5, none⟩)))) a5 u_ es_ ∧ WE P Q l ((n_, (.ld (.c (.pointer (some ⟨b, 5, none⟩)))), a5) :: rs_) es_ (put t d a5) w) := by
  have := h.Eld (o := 5) (by simp) P d l Q t (n_ := n_) (u_ := u_) (rs_ := rs_) (es_ := es_)
  exact this
theorem row8s_5 {w : World} {b : Nat} {a0 a1 a2 a3 a4 a5 a6 a7 : Value} (h : Row w b [a0, a1, a2, a3, a4, a5, a6, a7]) (P : Program) : Fw.sees P (.ld (.c (.pointer (some ⟨b, 5, none⟩)))) w a5 = True := h.sees (o := 5) (by simp) P
end
theorem lns_rev {L L' : Nat → Nat} {n len len' : Nat} {ev ev' : Bool} (hr : ∀ j, j < n → L' j = L (n - 1 - j)) (h : Lns L n len ev) (h' : Lns L' n len' ev') : ev = ev' ∧ (ev = true → len = len') ∧ (len = 0 ↔ len' = 0) := by
  have hr2 : ∀ j, j < n → L j = L' (n - 1 - j) := fun j hj => by rw [hr _ (by omega), show n - 1 - (n - 1 - j) = j by omega]
  have hz : len = 0 ↔ len' = 0 := by
    rw [h.z, h'.z]
    exact ⟨fun e j hj => by rw [hr j hj]; exact e _ (by omega), fun e j hj => by rw [hr2 j hj]; exact e _ (by omega)⟩
  by_cases h0 : len = 0
  · have h0' := hz.1 h0
    have e1 : ev = true := h.e.2 fun j hj => Or.inl (h.z.1 h0 j hj)
    have e2 : ev' = true := h'.e.2 fun j hj => Or.inl (h'.z.1 h0' j hj)
    exact ⟨e1.trans e2.symm, fun _ => h0.trans h0'.symm, hz⟩
  have h0' : len' ≠ 0 := fun e => h0 (hz.2 e)
  obtain ⟨j, hj, ej⟩ := h.m h0
  obtain ⟨i, hi, ei⟩ := h'.m h0'
  have a1 : ev = true → len = len' := fun e => by
    rcases h.e.1 e (n - 1 - i) (by omega) with h2 | h2
    · rw [← hr i hi, ei] at h2; exact absurd h2 h0'
    · rw [← hr i hi, ei] at h2; exact h2.symm
  have a2 : ev' = true → len' = len := fun e => by
    rcases h'.e.1 e (n - 1 - j) (by omega) with h2 | h2
    · rw [← hr2 j hj, ej] at h2; exact absurd h2 h0
    · rw [← hr2 j hj, ej] at h2; exact h2.symm
  have b1 : ev = true → ev' = true := fun e => h'.e.2 fun q hq => by rw [hr q hq, ← a1 e]; exact h.e.1 e _ (by omega)
  have b2 : ev' = true → ev = true := fun e => h.e.2 fun q hq => by rw [hr2 q hq, ← a2 e]; exact h'.e.1 e _ (by omega)
  refine ⟨?_, a1, hz⟩
  cases ev
  · cases ev'
    · rfl
    · exact absurd (b2 rfl) (by simp)
  · exact (b1 rfl).symm
theorem zis_rev {L L' : Nat → Nat} {n : Nat} (hr : ∀ j, j < n → L' j = L (n - 1 - j)) : ∀ d, d ≤ n → (zis L (n - d)).length + (zis L' d).length = (zis L n).length
  | 0, _ => by simp [zis]
  | d + 1, h => by
    have ih := zis_rev hr d (by omega)
    have e1 := zis_succ L (n - (d + 1))
    rw [show n - (d + 1) + 1 = n - d by omega] at e1
    have e2 := zis_succ L' d
    rw [hr d (by omega), show n - 1 - d = n - (d + 1) by omega] at e2
    rw [e1] at ih
    rw [e2]
    by_cases h0 : L (n - (d + 1)) = 0
    · rw [if_pos h0, List.length_append, List.length_singleton] at ih ⊢
      omega
    · rw [if_neg h0] at ih ⊢
      exact ih
theorem zis_at (L : Nat → Nat) : ∀ (n i : Nat), i < n → L i = 0 → (zis L n)[(zis L i).length]? = some (i : Int)
  | 0, _, h, _ => by omega
  | n + 1, i, h, h0 => by
    rw [zis_succ]
    by_cases hi : i = n
    · subst hi
      rw [if_pos h0, List.getElem?_append_right (Nat.le_refl _), Nat.sub_self]; rfl
    · have ih := zis_at L n i (by omega) h0
      split
      · rw [List.getElem?_append_left (by
          rcases Nat.lt_or_ge (zis L i).length (zis L n).length with h2 | h2
          · exact h2
          · rw [List.getElem?_eq_none h2] at ih; cases ih), ih]
      · exact ih
theorem whl_eq {f k m : Int} {n z len len' : Nat} {ev ev' : Bool} (h : cnt f k m n = 0 → ev = ev' ∧ (ev = true → len = len')) : whl f k m n z len ev = whl f k m n z len' ev' := by
  unfold whl
  by_cases h0 : cnt f k m n = 0
  · obtain ⟨rfl, h2⟩ := h h0
    cases ev
    · simp
    · rw [h2 rfl]
  · rw [if_pos h0, if_pos h0]
theorem prt_eq {f k m : Int} {n z len len' : Nat} {ev ev' : Bool} (h : cnt f k m n = 0 → ev = ev' ∧ (ev = true → len = len') ∧ (len = 0 ↔ len' = 0)) : prt f k m n z len ev = prt f k m n z len' ev' := by
  unfold prt
  by_cases h0 : cnt f k m n = 0
  · obtain ⟨rfl, h2, h3⟩ := h h0
    cases ev
    · simp [h3]
    · rw [h2 rfl]
  · rw [if_pos h0, if_pos h0]
/-- What a good answer of Partial tells. -/
theorem prt_ok {f k m : Int} {n z len : Nat} {ev : Bool} (h : (prt f k m n z len ev).2 = 0) : cnt f k m n = 0 ∧ len ≠ 0 ∧ ev = true ∧ oddB f len = false ∧ (z : Int) ≤ m ∧ (prt f k m n z len ev).1 = (len : Int) := by
  unfold prt at h ⊢
  by_cases h0 : cnt f k m n = 0
  · rw [if_neg (fun e => e h0)] at h ⊢
    by_cases h1 : len = 0
    · rw [if_pos h1] at h; exact absurd h (by simp)
    rw [if_neg h1] at h ⊢
    cases ev
    · rw [if_pos rfl] at h; exact absurd h (by simp)
    rw [if_neg (by simp)] at h ⊢
    by_cases h2 : oddB f len = true
    · rw [if_pos h2] at h; exact absurd h (by simp)
    rw [if_neg h2] at h ⊢
    by_cases h3 : m < (z : Int)
    · rw [if_pos h3] at h; exact absurd h (by simp)
    rw [if_neg h3] at h ⊢
    exact ⟨h0, h1, rfl, by simpa using h2, by omega, rfl⟩
  · rw [if_pos h0] at h; exact absurd h h0
theorem culletlaw16_awake_spec (w : World) : CallV Try.prog 13 [] w fun v w' => v = .bool true ∧ RowKit.Below w.heap.size w w' := by
  refine ⟨by kernel_rfl, ?_⟩
  refine (Go.Proofs.Ytcbjabnnokjnpaa.PA.culletlaw16_awake.calls 60 true w (by decide +kernel)).mono ?_
  rintro e w' ⟨he, hB⟩
  exact ⟨_, he, rfl, hB⟩
end Go.Proofs.Ytcbjabnnokjnpaa.Fw
