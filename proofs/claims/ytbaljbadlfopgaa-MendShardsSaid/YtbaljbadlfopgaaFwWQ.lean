import Derived.Test.YtbaljbadlfopgaaFwTQ
import Derived.Test.YtbaljbadlfopgaaFwOQ
set_option linter.all false
/- Slices of structs: read, and opened as arguments. -/
set_option linter.unusedVariables false
namespace Go.Fw
open Go Go.RowKit Go.ChangeShapes Go.WideShapes Go.Deep
structure Slw (m : Nat) (w : World) (s : Value) (rows : List (List Value)) : Prop where
  sh : ∃ a cap, s = .slice a rows.length cap ∧ (rows ≠ [] → ∃ p, a = some p)
  ln : ∀ vs ∈ rows, vs.length = m
  rd : ∀ i vs, rows[i]? = some vs → World.rdL w ((bs s).add (i * m)) vs
def elW (m : Nat) (s : Value) (i : Nat) : Value := .pointer (some ((bs s).add (i * m)))
section
variable {m : Nat} {w w' : World} {s : Value} {rows : List (List Value)}
theorem Slw.up (h : Slw m w s rows) (hb : Below w.heap.size w w') : Slw m w' s rows :=
  ⟨h.sh, h.ln, fun i vs hi j v hj => (hb.cell (block_lt (h.rd i vs hi j v hj))).trans (h.rd i vs hi j v hj)⟩
variable {P : Program} {d : Option Nat} {l : List D} {Q : T → World → Prop} {t : T}
theorem Slw.Xlen (h : Slw m w s rows) (P : Program) (d : Option Nat) (l : List D) (Q : T → World → Prop) (t : T) (w' : World) : XW P (.len (.c s)) d l Q t w' = W P Q l (put t d (.int .i64 (rows.length : Int))) w' := by
  obtain ⟨a, cap, rfl, _⟩ := h.sh; rfl
theorem Slw.Xix (h : Slw m w s rows) {k : IntKind} {i : Nat} (hi : i < rows.length) (P : Program) (d : Option Nat) (l : List D) (Q : T → World → Prop) (t : T) (w' : World) :
    XW P (.ixs m (.c s) (.c (.int k (i : Int)))) d l Q t w' = W P Q l (put t d (elW m s i)) w' := by
  obtain ⟨a, cap, rfl, hp⟩ := h.sh
  obtain ⟨p, rfl⟩ := hp (by rintro rfl; simp at hi)
  show ixsK m (.slice (some p) rows.length cap) (.int k (i : Int)) (fun v => W P Q l (put t d v) w') = _
  simp only [ixsK, asS, asI, elW, bs, Int.toNat_natCast]
  apply propext
  constructor
  · rintro ⟨_, p', hp', hk⟩; cases hp'; exact hk
  · intro hk; exact ⟨⟨by omega, by omega⟩, p, rfl, hk⟩
theorem rd_ldn {w : World} {p : Addr} {vs : List Value} {n : Nat} (hr : World.rdL w p vs) (hl : vs.length = n) (K : Value → Prop) : ldnK w n (.pointer (some p)) K = K (.agg vs.toArray) := by
  apply propext
  constructor
  · rintro ⟨us, h1, h2, h3⟩
    have : us = vs := by
      refine List.ext_getElem (by omega) fun j h4 h5 => ?_
      have e1 := h2 j _ (List.getElem?_eq_getElem h4)
      have e2 := hr j _ (List.getElem?_eq_getElem h5)
      rw [e1] at e2
      exact Option.some.inj e2
    subst this
    exact h3
  · intro hk; exact ⟨vs, hl, hr, hk⟩
theorem Slw.Xldn (h : Slw m w s rows) {i : Nat} (hi : i < rows.length) (P : Program) (d : Option Nat) (l : List D) (Q : T → World → Prop) (t : T) :
    XW P (.ldn m (.c (elW m s i))) d l Q t w = W P Q l (put t d (.agg rows[i].toArray)) w :=
  rd_ldn (h.rd i _ (List.getElem?_eq_getElem hi)) (h.ln _ (List.getElem_mem hi)) (fun v => W P Q l (put t d v) w)
end
/-- A slice of structs of m cells, B bytes each. -/
def RSW (m B : Nat) (R : World → List Value → Prop) (w : World) (cs : List Value) : Prop := ∃ (s : Value) (rows : List (List Value)), cs = [s] ∧ Slw m w s rows ∧ rows.length * B ≤ 140737488351232 ∧ ∀ x ∈ rows, R w x
theorem RSW.one {m B : Nat} {R : World → List Value → Prop} {w : World} {c : List Value} (h : RSW m B R w c) : c.length = 1 := by obtain ⟨s, l, rfl, _⟩ := h; rfl
end Go.Fw
