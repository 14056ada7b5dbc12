import Derived.Test.YtbaljbadlfopgaaFwPW
import Derived.Test.YtbaljbadlfopgaaGfBW
set_option linter.all false
/- More steps: addresses, rows, elements of the fields in memory. -/
set_option linter.unusedVariables false
set_option linter.unusedSimpArgs false
namespace Go.Fw
open Go Go.RowKit

instance : Cell (El 16) := ⟨fun x => .int .u16 (x.v.toNat : Int), fun _ => rfl⟩
instance : Cell (El 8) := ⟨fun x => .int .u8 (x.v.toNat : Int), fun _ => rfl⟩
theorem cell_e8 (x : El 8) : Cell.v x = .int .u8 (x.v.toNat : Int) := rfl
theorem el_zero {n : Nat} (x : El n) : ((x.v.toNat : Int) = 0) = (x = 0) := by
  apply propext
  constructor
  · intro h; apply El.ext; apply BitVec.eq_of_toNat_eq; have : x.v.toNat = 0 := by omega
    rw [this]; rfl
  · rintro rfl; rfl
theorem xor8 (x y : El 8) : bitsOp .xor .u8 (x.v.toNat : Int) (y.v.toNat : Int) = ((x + y).v.toNat : Int) := by
  rw [bits_xor fits_u8 x.v.isLt y.v.isLt]; simp [El.add_v]
def e8 (n : Nat) : El 8 := ⟨BitVec.ofNat 8 n⟩
theorem e8_v (n : Nat) (h : n < 256) : (e8 n).v.toNat = n := by simp [e8]; omega
/-! Bytes as a string. -/
def El.u8 (x : El 8) : UInt8 := UInt8.ofBitVec x.v
def str (xs : List (El 8)) : Value := .string ⟨(xs.map El.u8).toArray⟩
theorem u8s_el (xs : List (El 8)) : u8s (xs.map El.u8) = xs.map Cell.v := by
  unfold u8s; rw [List.map_map]; rfl
theorem u8_inj {x y : El 8} (h : El.u8 x = El.u8 y) : x = y := El.ext (by have := congrArg UInt8.toBitVec h; exact this)
theorem Sl.s2t {w : World} {s : Value} {xs : List (El 8)} (h : Sl w s xs) (K : Value → Prop) : s2tK w s K = K (str xs) := by
  obtain ⟨a, c, rfl, hr⟩ := h.reads
  rw [← u8s_el] at hr
  simp only [s2tK, asS]
  apply propext
  constructor
  · rintro ⟨bs, hl, hr2, hk⟩
    obtain rfl : bs = xs.map El.u8 := u8s_inj (reads_uniq hr2 hr (by simp [u8s, hl]))
    exact hk
  · intro hk
    exact ⟨_, List.length_map .., hr, hk⟩
theorem str_eq (xs ys : List (El 8)) : ((xs.map El.u8) == (ys.map El.u8)) = decide (xs = ys) := by
  rw [Bool.eq_iff_iff]
  simp only [beq_iff_eq, decide_eq_true_eq]
  constructor
  · intro h
    refine List.ext_getElem (by simpa using congrArg List.length h) fun i h1 h2 => ?_
    have := List.getElem_of_eq h (by simpa using h1 : i < _)
    rw [List.getElem_map, List.getElem_map] at this
    exact u8_inj this
  · rintro rfl; rfl
section
variable {w : World} {s : Value} {xs : List (El 8)}
theorem lZ59 (P : Program) (d : Option Nat) (l : List D) (Q : T → World → Prop) (t : T) (w : World) (n : Bool) (xs ys : List (El 8)) : XW P (.eqt n (.c (str xs)) (.c (str ys))) d l Q t w = W P Q l (put t d (.bool (decide (xs = ys) != n))) w := by
  rw [← str_eq]; rfl
end
section
variable {P : Program} {d : Option Nat} {l : List D} {Q : T → World → Prop} {t : T} {w w' : World}
theorem X_ixa {n sz : Nat} {a : Addr} {k : IntKind} {i : Nat} (hi : i < n) (P : Program) (d : Option Nat) (l : List D) (Q : T → World → Prop) (t : T) (w : World) :
    XW P (.ixa n sz (.c (.pointer (some a))) (.c (.int k (i : Int)))) d l Q t w = W P Q l (put t d (.pointer (some (a.add (i * sz))))) w := by
  apply propext
  constructor
  · rintro ⟨_, h⟩; exact h
  · intro h; exact ⟨⟨by omega, by omega⟩, h⟩
theorem X_ixt {s : ByteArray} {k : IntKind} {i : Nat} (hi : i < s.size) (P : Program) (d : Option Nat) (l : List D) (Q : T → World → Prop) (t : T) (w : World) :
    XW P (.ixt (.c (.string s)) (.c (.int k (i : Int)))) d l Q t w = W P Q l (put t d (.int .u8 ((s.data.getD i 0).toNat : Int))) w := by
  apply propext
  constructor
  · rintro ⟨_, h⟩; exact h
  · intro h; exact ⟨⟨by omega, by omega⟩, h⟩
theorem Row.Xld {b : Nat} {cs : List Value} (h : Row w b cs) {o : Nat} (ho : o < cs.length) (P : Program) (d : Option Nat) (l : List D) (Q : T → World → Prop) (t : T) :
    XW P (.ld (.c (.pointer (some ⟨b, o, none⟩)))) d l Q t w = W P Q l (put t d cs[o]) w := by
  have := row_cell h (List.getElem?_eq_getElem ho)
  apply propext
  constructor
  · rintro ⟨v, hv, hk⟩
    rw [this] at hv; cases hv; exact hk
  · intro hk; exact ⟨_, this, hk⟩
theorem Row.Xst {b : Nat} {cs : List Value} (h : Row w b cs) {o : Nat} (ho : o < cs.length) {v : Value} (hv : scal v = true) (hk : ∀ w', Row w' b (cs.set o v) → w.grownBy w' (some b) → W P Q l (put t d undef) w') :
    XW P (.st (.c (.pointer (some ⟨b, o, none⟩))) (.c v)) d l Q t w :=
  ⟨⟨_, row_cell h (List.getElem?_eq_getElem ho)⟩, row_frozen h o, hv, hk _ (setCell_row h o v) (setCell_grown w _ v)⟩
theorem X_box {ty : TypeId} {v : Value} (hk : ∀ b w', Row w' b v.cells.toList → w.heap.size ≤ b → Below w.heap.size w w' → W P Q l (put t d (.pointer (some ⟨b, 0, none⟩))) w') : XW P (.box ty (.c v)) d l Q t w := by
  have := alloc_row w v.cells.toList ty
  exact hk _ _ this (Nat.le_refl _) (alloc_below w _)
theorem X_alloc {ty : TypeId} {z : List Value} (hk : ∀ b w', Row w' b z → w.heap.size ≤ b → Below w.heap.size w w' → W P Q l (put t d (.pointer (some ⟨b, 0, none⟩))) w') : XW P (.alloc ty z) d l Q t w :=
  hk _ _ (alloc_row w z ty) (Nat.le_refl _) (alloc_below w _)
theorem Row.up {b : Nat} {cs : List Value} (h : Row w b cs) (hb : Below w.heap.size w w') : Row w' b cs := row_up h (hb.block b (row_lt h))
theorem Row.grown {b : Nat} {cs : List Value} (h : Row w b cs) {r : Option Nat} (hg : w.grownBy w' r) (hne : some b ≠ r) : Row w' b cs := row_up h (hg.block b (row_lt h) hne)
theorem bel_drew (w : World) : Below w.heap.size w w.drew := ⟨rfl, rfl, rfl, Nat.le_refl _, fun _ _ => rfl⟩
theorem Below.row (hB : Below w.heap.size w w') {w2 : World} {b : Nat} (hb : w.heap.size ≤ b) (hg : w'.grownBy w2 (some b)) : Below w.heap.size w w2 := hB.grown hg hB.size (fun k hk => by cases hk; exact hb)
end
end Go.Fw
