import Derived.Test.YtbaljbadlfopgaaFwTW
import Derived.Test.YtbaljbadlfopgaaFwOW
set_option linter.all false
/- Slices of structs: read, and opened as arguments. -/
set_option linter.unusedVariables false
namespace Go.Fw
open Go Go.RowKit Go.ChangeShapes Go.WideShapes Go.Deep
structure Slw (m : Nat) (w : World) (s : Value) (rows : List (List Value)) : Prop where
  sh : ∃ a cap, s = .slice a rows.length cap ∧ (rows ≠ [] → ∃ p, a = some p)
  ln : ∀ vs ∈ rows, vs.length = m
  rd : ∀ i vs, rows[i]? = some vs → World.rdL w ((bs s).add (i * m)) vs
def elW (m : Nat) (s : Value) (i : Nat) : Value := .pointer (some ((bs s).add (i * m)))
section
variable {m : Nat} {w w' : World} {s : Value} {rows : List (List Value)}
theorem Slw.up (h : Slw m w s rows) (hb : Below w.heap.size w w') : Slw m w' s rows :=
  ⟨h.sh, h.ln, fun i vs hi j v hj => (hb.cell (block_lt (h.rd i vs hi j v hj))).trans (h.rd i vs hi j v hj)⟩
variable {P : Program} {d : Option Nat} {l : List D} {Q : T → World → Prop} {t : T}
theorem Slw.Xlen (h : Slw m w s rows) (P : Program) (d : Option Nat) (l : List D) (Q : T → World → Prop) (t : T) (w' : World) : XW P (.len (.c s)) d l Q t w' = W P Q l (put t d (.int .i64 (rows.length : Int))) w' := by
  obtain ⟨a, cap, rfl, _⟩ := h.sh; rfl
theorem Slw.Xix (h : Slw m w s rows) {k : IntKind} {i : Nat} (hi : i < rows.length) (P : Program) (d : Option Nat) (l : List D) (Q : T → World → Prop) (t : T) (w' : World) :
    XW P (.ixs m (.c s) (.c (.int k (i : Int)))) d l Q t w' = W P Q l (put t d (elW m s i)) w' := by
  obtain ⟨a, cap, rfl, hp⟩ := h.sh
  obtain ⟨p, rfl⟩ := hp (by rintro rfl; simp at hi)
  show ixsK m (.slice (some p) rows.length cap) (.int k (i : Int)) (fun v => W P Q l (put t d v) w') = _
  simp only [ixsK, asS, asI, elW, bs, Int.toNat_natCast]
  apply propext
  constructor
  · rintro ⟨_, p', hp', hk⟩; cases hp'; exact hk
  · intro hk; exact ⟨⟨by omega, by omega⟩, p, rfl, hk⟩
theorem rd_ldn {w : World} {p : Addr} {vs : List Value} {n : Nat} (hr : World.rdL w p vs) (hl : vs.length = n) (K : Value → Prop) : ldnK w n (.pointer (some p)) K = K (.agg vs.toArray) := by
  apply propext
  constructor
  · rintro ⟨us, h1, h2, h3⟩
    have : us = vs := by
      refine List.ext_getElem (by omega) fun j h4 h5 => ?_
      have e1 := h2 j _ (List.getElem?_eq_getElem h4)
      have e2 := hr j _ (List.getElem?_eq_getElem h5)
      rw [e1] at e2
      exact Option.some.inj e2
    subst this
    exact h3
  · intro hk; exact ⟨vs, hl, hr, hk⟩
theorem Slw.Xldn (h : Slw m w s rows) {i : Nat} (hi : i < rows.length) (P : Program) (d : Option Nat) (l : List D) (Q : T → World → Prop) (t : T) :
    XW P (.ldn m (.c (elW m s i))) d l Q t w = W P Q l (put t d (.agg rows[i].toArray)) w :=
  rd_ldn (h.rd i _ (List.getElem?_eq_getElem hi)) (h.ln _ (List.getElem_mem hi)) (fun v => W P Q l (put t d v) w)
end
/-- A slice of structs of m cells, B bytes each. -/
def RSW (m B : Nat) (R : World → List Value → Prop) (w : World) (cs : List Value) : Prop := ∃ (s : Value) (rows : List (List Value)), cs = [s] ∧ Slw m w s rows ∧ rows.length * B ≤ 140737488351232 ∧ ∀ x ∈ rows, R w x
theorem Opn.sliceW {P : Program} {t e : TypeId} {R : World → List Value → Prop} {m : Nat} (B : Nat) (ht : P.underlying t = some (.slice e)) (he : P.cellsOf e = m) (hB : B ≤ P.bytesOf e) (ho : Opn P e R) : Opn P t (RSW m B R) := by
  intro H enc w fuel cs x h hwt
  rcases open_slice ht h with ⟨rfl, rfl⟩ | ⟨a, len, cap, mm, n, D, Pl, rfl, _, hl, hm, hmm, rfl, hx⟩
  · exact ⟨_, [], rfl, ⟨⟨none, 0, rfl, fun h => absurd rfl h⟩, fun vs h => absurd h List.not_mem_nil, fun i vs h => by simp at h⟩, by simp, fun x hx => by cases hx⟩
  · simp only [if_true] at hmm
    subst hmm
    have hlen : len * B ≤ 140737488351232 := by
      have h1 := hwt (((List.range len).map D).length * P.bytesOf e + ((List.range (mm - len)).map fun j => D (len + j)).length * P.bytesOf e) (by
        simp only [DataW.weights, ht, ← Nat.add_mul]
        exact List.mem_cons_self)
      simp only [List.length_map, List.length_range, reachBytes] at h1
      have := Nat.mul_le_mul_left len hB
      omega
    obtain ⟨l, hll, hp⟩ := list_of_each (p := fun i (vs : List Value) => (vs.length = m ∧ World.rdL w (a.add (i * m)) vs) ∧ R w vs) len (fun i hi => by
      obtain ⟨cs', h1, h2⟩ := hx i (by omega)
      have h4 := ho H enc w n cs' (D i, Pl i) h2 (fun q hq => hwt q (weights_slice_mem ht (List.mem_map.2 ⟨i, List.mem_range.2 hi, rfl⟩) hq))
      obtain ⟨_, hlc, hc⟩ := World.cells?_some h1
      rw [he] at hlc hc
      refine ⟨cs', ⟨hlc, fun j v hj => ?_⟩, h4⟩
      rw [hc j (by have := (List.getElem?_eq_some_iff.1 hj).1; omega)]
      exact hj)
    refine ⟨_, l, rfl, ⟨⟨some a, mm, by rw [hll], fun _ => ⟨a, rfl⟩⟩, fun vs hv => ?_, fun i vs hi => (hp i vs hi).1.2⟩, by rw [hll]; exact hlen, fun x hx => ?_⟩
    · obtain ⟨j, hj⟩ := List.mem_iff_getElem?.1 hv
      exact (hp j vs hj).1.1
    · obtain ⟨j, hj⟩ := List.mem_iff_getElem?.1 hx
      exact (hp j x hj).2
theorem RSW.one {m B : Nat} {R : World → List Value → Prop} {w : World} {c : List Value} (h : RSW m B R w c) : c.length = 1 := by obtain ⟨s, l, rfl, _⟩ := h; rfl
end Go.Fw
