import Derived.Test.YtbaljbadlfopgaaFwPQ
import Derived.Test.YtbaljbadlfopgaaGfBQ
set_option linter.all false
/- More steps: addresses, rows, elements of the fields in memory. -/
set_option linter.unusedVariables false
set_option linter.unusedSimpArgs false
namespace Go.Fw
open Go Go.RowKit

instance : Cell (El 16) := ⟨fun x => .int .u16 (x.v.toNat : Int), fun _ => rfl⟩
instance : Cell (El 8) := ⟨fun x => .int .u8 (x.v.toNat : Int), fun _ => rfl⟩
theorem cell_e16 (x : El 16) : Cell.v x = .int .u16 (x.v.toNat : Int) := rfl
theorem cell_e8 (x : El 8) : Cell.v x = .int .u8 (x.v.toNat : Int) := rfl
theorem el_zero {n : Nat} (x : El n) : ((x.v.toNat : Int) = 0) = (x = 0) := by
  apply propext
  constructor
  · intro h; apply El.ext; apply BitVec.eq_of_toNat_eq; have : x.v.toNat = 0 := by omega
    rw [this]; rfl
  · rintro rfl; rfl
theorem el_eq {n : Nat} (x y : El n) : ((x.v.toNat : Int) = (y.v.toNat : Int)) = (x = y) := by
  apply propext
  constructor
  · intro h; apply El.ext; apply BitVec.eq_of_toNat_eq; omega
  · rintro rfl; rfl
theorem xor16 (x y : El 16) : bitsOp .xor .u16 (x.v.toNat : Int) (y.v.toNat : Int) = ((x + y).v.toNat : Int) := by
  rw [bits_xor fits_u16 x.v.isLt y.v.isLt]; simp [El.add_v]
theorem xor8 (x y : El 8) : bitsOp .xor .u8 (x.v.toNat : Int) (y.v.toNat : Int) = ((x + y).v.toNat : Int) := by
  rw [bits_xor fits_u8 x.v.isLt y.v.isLt]; simp [El.add_v]
def e8 (n : Nat) : El 8 := ⟨BitVec.ofNat 8 n⟩
theorem e8_v (n : Nat) (h : n < 256) : (e8 n).v.toNat = n := by simp [e8]; omega
section
variable {P : Program} {d : Option Nat} {l : List D} {Q : T → World → Prop} {t : T} {w w' : World}
theorem X_ixa {n sz : Nat} {a : Addr} {k : IntKind} {i : Nat} (hi : i < n) (P : Program) (d : Option Nat) (l : List D) (Q : T → World → Prop) (t : T) (w : World) :
    XW P (.ixa n sz (.c (.pointer (some a))) (.c (.int k (i : Int)))) d l Q t w = W P Q l (put t d (.pointer (some (a.add (i * sz))))) w := by
  apply propext
  constructor
  · rintro ⟨_, h⟩; exact h
  · intro h; exact ⟨⟨by omega, by omega⟩, h⟩
theorem X_ixt {s : ByteArray} {k : IntKind} {i : Nat} (hi : i < s.size) (P : Program) (d : Option Nat) (l : List D) (Q : T → World → Prop) (t : T) (w : World) :
    XW P (.ixt (.c (.string s)) (.c (.int k (i : Int)))) d l Q t w = W P Q l (put t d (.int .u8 ((s.data.getD i 0).toNat : Int))) w := by
  apply propext
  constructor
  · rintro ⟨_, h⟩; exact h
  · intro h; exact ⟨⟨by omega, by omega⟩, h⟩
theorem Row.Xld {b : Nat} {cs : List Value} (h : Row w b cs) {o : Nat} (ho : o < cs.length) (P : Program) (d : Option Nat) (l : List D) (Q : T → World → Prop) (t : T) :
    XW P (.ld (.c (.pointer (some ⟨b, o, none⟩)))) d l Q t w = W P Q l (put t d cs[o]) w := by
  have := row_cell h (List.getElem?_eq_getElem ho)
  apply propext
  constructor
  · rintro ⟨v, hv, hk⟩
    rw [this] at hv; cases hv; exact hk
  · intro hk; exact ⟨_, this, hk⟩
theorem Row.Xst {b : Nat} {cs : List Value} (h : Row w b cs) {o : Nat} (ho : o < cs.length) {v : Value} (hv : scal v = true) (hk : ∀ w', Row w' b (cs.set o v) → w.grownBy w' (some b) → W P Q l (put t d undef) w') :
    XW P (.st (.c (.pointer (some ⟨b, o, none⟩))) (.c v)) d l Q t w :=
  ⟨⟨_, row_cell h (List.getElem?_eq_getElem ho)⟩, row_frozen h o, hv, hk _ (setCell_row h o v) (setCell_grown w _ v)⟩
theorem X_box {ty : TypeId} {v : Value} (hk : ∀ b w', Row w' b v.cells.toList → w.heap.size ≤ b → Below w.heap.size w w' → W P Q l (put t d (.pointer (some ⟨b, 0, none⟩))) w') : XW P (.box ty (.c v)) d l Q t w := by
  have := alloc_row w v.cells.toList ty
  exact hk _ _ this (Nat.le_refl _) (alloc_below w _)
theorem X_alloc {ty : TypeId} {z : List Value} (hk : ∀ b w', Row w' b z → w.heap.size ≤ b → Below w.heap.size w w' → W P Q l (put t d (.pointer (some ⟨b, 0, none⟩))) w') : XW P (.alloc ty z) d l Q t w :=
  hk _ _ (alloc_row w z ty) (Nat.le_refl _) (alloc_below w _)
theorem Row.up {b : Nat} {cs : List Value} (h : Row w b cs) (hb : Below w.heap.size w w') : Row w' b cs := row_up h (hb.block b (row_lt h))
theorem Row.grown {b : Nat} {cs : List Value} (h : Row w b cs) {r : Option Nat} (hg : w.grownBy w' r) (hne : some b ≠ r) : Row w' b cs := row_up h (hg.block b (row_lt h) hne)
theorem bel_drew (w : World) : Below w.heap.size w w.drew := ⟨rfl, rfl, rfl, Nat.le_refl _, fun _ _ => rfl⟩
theorem Below.row (hB : Below w.heap.size w w') {w2 : World} {b : Nat} (hb : w.heap.size ≤ b) (hg : w'.grownBy w2 (some b)) : Below w.heap.size w w2 := hB.grown hg hB.size (fun k hk => by cases hk; exact hb)
end
end Go.Fw
