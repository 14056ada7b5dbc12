import Derived.Test.YtbaljbadlfopgaaFwLW
import Derived.Below
import Derived.Deep.Slices
set_option linter.all false
set_option linter.unusedVariables false
set_option linter.unusedSimpArgs false
namespace Go.Fw
open Go Go.RowKit

/-! ## Memory -/
/-- What stands in one cell. -/
class Cell (α : Type) where
  v : α → Value
  sc : ∀ x, scal (v x) = true
/-- A slice's header. -/
structure Hd where
  a : Option Addr
  n : Nat
  c : Nat
instance : Cell Hd := ⟨fun h => .slice h.a h.n h.c, fun _ => rfl⟩
instance : Cell Int := ⟨fun n => .int .i64 n, fun _ => rfl⟩
instance : Cell (BitVec 16) := ⟨fun n => .int .u16 (n.toNat : Int), fun _ => rfl⟩
instance : Cell (BitVec 8) := ⟨fun n => .int .u8 (n.toNat : Int), fun _ => rfl⟩
instance : Cell Bool := ⟨fun n => .bool n, fun _ => rfl⟩
theorem cell_hd (h : Hd) : Cell.v h = .slice h.a h.n h.c := rfl
theorem cell_int (n : Int) : Cell.v n = .int .i64 n := rfl
def bs : Value → Addr
  | .slice (some p) _ _ => p
  | _ => ⟨0, 0, none⟩
def elP (s : Value) (i : Nat) : Value := .pointer (some ((bs s).add i))
variable {α : Type} [Cell α]
/-- The slice reads so. -/
structure Sl (w : World) (s : Value) (l : List α) : Prop where
  sh : ∃ a cap, s = .slice a l.length cap ∧ l.length ≤ cap ∧ (l ≠ [] → ∃ p, a = some p)
  rd : ∀ i x, l[i]? = some x → w.cell? ((bs s).add i) = some (Cell.v x)
/-- The slice's block. -/
def blk (s : Value) : Option Nat := s.ownBlock

theorem block_lt {w : World} {a : Addr} {v : Value} (h : w.cell? a = some v) : a.block < w.heap.size := World.block_lt_of_cell? w a h
theorem add_block (a : Addr) (n : Nat) : (a.add n).block = a.block := by unfold Addr.add; split <;> rfl

section
variable {w w' : World} {s : Value} {l : List α}
theorem Sl.len (h : Sl w s l) (K : Value → Prop) : lenK s K = K (.int .i64 (l.length : Int)) := by
  obtain ⟨a, cap, rfl, _, _⟩ := h.sh; rfl
theorem Sl.ix (h : Sl w s l) {k : IntKind} {i : Nat} (hi : i < l.length) (K : Value → Prop) : ixsK 1 s (.int k (i : Int)) K = K (elP s i) := by
  obtain ⟨a, cap, rfl, _, hp⟩ := h.sh
  obtain ⟨p, rfl⟩ := hp (by intro e; rw [e] at hi; simp at hi)
  simp only [ixsK, asS, asI, elP, bs, Int.toNat_natCast, Nat.mul_one]
  apply propext
  constructor
  · rintro ⟨_, p', hp', hk⟩; cases hp'; exact hk
  · intro hk; exact ⟨⟨by omega, by omega⟩, p, rfl, hk⟩
theorem Sl.ld (h : Sl w s l) {i : Nat} (hi : i < l.length) (K : Value → Prop) : ldK w (elP s i) K = K (Cell.v l[i]) := by
  have := h.rd i _ (List.getElem?_eq_getElem hi)
  simp only [ldK, asP, elP, this]
  apply propext
  constructor
  · rintro ⟨v, hv, hk⟩; cases hv; exact hk
  · intro hk; exact ⟨_, rfl, hk⟩
theorem Sl.up (h : Sl w s l) (hb : Below w.heap.size w w') : Sl w' s l :=
  ⟨h.sh, fun i x hx => (hb.cell (block_lt (h.rd i x hx))).trans (h.rd i x hx)⟩
theorem Sl.grown (h : Sl w s l) {r : Option Nat} (hg : w.grownBy w' r) (hne : blk s ≠ r ∨ l = []) : Sl w' s l := by
  refine ⟨h.sh, fun i x hx => ?_⟩
  have hc := h.rd i x hx
  obtain ⟨a, cap, hs, _, hp⟩ := h.sh
  have hl : l ≠ [] := by rintro rfl; simp at hx
  obtain ⟨p, rfl⟩ := hp hl
  refine hg.cell hc ?_
  rw [add_block]
  rcases hne with hne | hne
  · intro e; apply hne; rw [← e, hs]; rfl
  · exact absurd hne hl
theorem Sl.drew (h : Sl w s l) : Sl w.drew s l := ⟨h.sh, h.rd⟩
theorem Sl.reads (h : Sl w s l) : ∃ a cap, s = .slice a l.length cap ∧ Fw.reads w a (l.map Cell.v) := by
  obtain ⟨a, cap, rfl, _, hp⟩ := h.sh
  refine ⟨a, cap, rfl, ?_⟩
  by_cases hl : l = []
  · exact Or.inl (by rw [hl]; rfl)
  · obtain ⟨p, rfl⟩ := hp hl
    refine Or.inr ⟨p, rfl, fun j v hj => ?_⟩
    rw [List.getElem?_map] at hj
    obtain ⟨x, hx, rfl⟩ := Option.map_eq_some_iff.1 hj
    exact h.rd j x hx
theorem Sl.nil (w : World) : Sl w (.slice none 0 0) ([] : List α) := ⟨⟨none, 0, rfl, Nat.le_refl _, fun h => absurd rfl h⟩, fun i x h => by simp at h⟩
theorem Sl.blk_lt (h : Sl w s l) (hl : l ≠ []) : ∃ b, blk s = some b ∧ b < w.heap.size := by
  obtain ⟨a, cap, rfl, _, hp⟩ := h.sh
  obtain ⟨p, rfl⟩ := hp hl
  obtain ⟨x, l', rfl⟩ := List.exists_cons_of_ne_nil hl
  have := block_lt (h.rd 0 x rfl)
  rw [add_block] at this
  exact ⟨p.block, rfl, this⟩

/-- s[lo:hi] within the length. -/
def sub (s : Value) (lo hi : Nat) : Value := match s with | .slice a _ c => slV a 1 lo hi c | v => v
theorem bs_sub {a : Option Addr} {n c lo hi : Nat} (h : lo < hi) (hc : hi ≤ c) {p : Addr} (ha : a = some p) : bs (sub (.slice a n c) lo hi) = p.add lo := by
  subst ha
  simp only [sub, slV]
  rw [if_neg (by omega)]
  simp [bs]
theorem add_add' (a : Addr) (i j : Nat) : (a.add i).add j = a.add (i + j) := by
  unfold Addr.add
  split <;> split <;> simp_all
  omega
theorem Sl.sub (h : Sl w s l) {lo hi : Nat} (h1 : lo ≤ hi) (h2 : hi ≤ l.length) : Sl w (sub s lo hi) ((l.take hi).drop lo) := by
  obtain ⟨a, cap, rfl, hc, hp⟩ := h.sh
  have hlen : ((l.take hi).drop lo).length = hi - lo := by simp; omega
  refine ⟨⟨_, _, by rw [hlen]; rfl, by rw [hlen]; omega, fun hne => ?_⟩, fun i x hx => ?_⟩
  · have hl : l ≠ [] := by rintro rfl; simp at hne
    obtain ⟨p, rfl⟩ := hp hl
    split
    · exact ⟨_, rfl⟩
    · exact ⟨_, rfl⟩
  · have hi' : i < hi - lo := by
      have := (List.getElem?_eq_some_iff.1 hx).1
      omega
    have hl : l ≠ [] := by rintro rfl; simp at hx
    obtain ⟨p, rfl⟩ := hp hl
    rw [bs_sub (by omega) (by omega) rfl, add_add']
    rw [List.getElem?_drop, List.getElem?_take, if_pos (by omega)] at hx
    exact h.rd _ _ hx
theorem Sl.slc (h : Sl w s l) {k k' : IntKind} {lo hi : Nat} (h1 : lo ≤ hi) (h2 : hi ≤ l.length) (K : Value → Prop) :
    slcK 1 s (some (.int k (lo : Int))) (some (.int k' (hi : Int))) none K = K (Fw.sub s lo hi) := by
  obtain ⟨a, cap, rfl, hc, hp⟩ := h.sh
  simp only [slcK, asS, sbnd, bnd, asI, Int.toNat_natCast, Fw.sub]
  apply propext
  constructor
  · rintro ⟨_, _, hk⟩; exact hk
  · intro hk; exact ⟨⟨by omega, by omega⟩, ⟨by omega, by omega⟩, hk⟩
theorem Sl.slcHi (h : Sl w s l) {k' : IntKind} {hi : Nat} (h2 : hi ≤ l.length) (K : Value → Prop) :
    slcK 1 s none (some (.int k' (hi : Int))) none K = K (Fw.sub s 0 hi) := by
  obtain ⟨a, cap, rfl, hc, hp⟩ := h.sh
  simp only [slcK, asS, sbnd, bnd, asI, Int.toNat_natCast, Fw.sub]
  apply propext
  constructor
  · rintro ⟨_, hk⟩; exact hk
  · intro hk; exact ⟨⟨by omega, by omega⟩, hk⟩
end

/-! ### What the call owns -/
/-- A slice over a block of the call's own (from B on), which begins at its beginning. -/
def Ow (B : Nat) (w : World) (s : Value) (l : List α) : Prop :=
  (s = .slice none 0 0 ∧ l = []) ∨
  ∃ b cap rest, s = .slice (some ⟨b, 0, none⟩) l.length cap ∧ B ≤ b ∧ l.length + rest.length = cap ∧ Row w b (l.map Cell.v ++ rest)
section
variable {w w' : World} {s : Value} {l : List α} {B : Nat}
theorem row_cell {b : Nat} {cs : List Value} (h : Row w b cs) {i : Nat} {v : Value} (hv : cs[i]? = some v) : w.cell? ⟨b, i, none⟩ = some v := by
  obtain ⟨e, he⟩ := h
  simp [World.cell?, he, hv]
theorem row_frozen {b : Nat} {cs : List Value} (h : Row w b cs) (i : Nat) : w.frozen? ⟨b, i, none⟩ = false := by
  obtain ⟨e, he⟩ := h
  simp [World.frozen?, he]
theorem row_lt {b : Nat} {cs : List Value} (h : Row w b cs) : b < w.heap.size := by
  obtain ⟨e, he⟩ := h
  exact (Array.getElem?_eq_some_iff.1 he).1
theorem row_up {b : Nat} {cs : List Value} (h : Row w b cs) (hb : w'.heap[b]? = w.heap[b]?) : Row w' b cs := by
  obtain ⟨e, he⟩ := h
  exact ⟨e, hb.trans he⟩
theorem Ow.sl (h : Ow B w s l) : Sl w s l := by
  rcases h with ⟨rfl, rfl⟩ | ⟨b, cap, rest, rfl, _, hc, hr⟩
  · exact Sl.nil w
  · refine ⟨⟨_, _, rfl, by omega, fun _ => ⟨_, rfl⟩⟩, fun i x hx => ?_⟩
    have hi := (List.getElem?_eq_some_iff.1 hx).1
    simp only [bs, addr_add0, Nat.zero_add]
    refine row_cell hr ?_
    rw [List.getElem?_append_left (by simpa using hi), List.getElem?_map, hx]; rfl
theorem Ow.nil (B : Nat) (w : World) : Ow B w (.slice none 0 0) ([] : List α) := Or.inl ⟨rfl, rfl⟩
theorem Ow.up (h : Ow B w s l) (hb : Below w.heap.size w w') : Ow B w' s l := by
  rcases h with ⟨rfl, rfl⟩ | ⟨b, cap, rest, rfl, h1, hc, hr⟩
  · exact Ow.nil B w'
  · exact Or.inr ⟨b, cap, rest, rfl, h1, hc, row_up hr (hb.block b (row_lt hr))⟩
theorem Ow.mono (h : Ow B w s l) {B' : Nat} (hB : B' ≤ B) : Ow B' w s l := by
  rcases h with h | ⟨b, cap, rest, rfl, h1, hc, hr⟩
  · exact Or.inl h
  · exact Or.inr ⟨b, cap, rest, rfl, by omega, hc, hr⟩
theorem Ow.drew (h : Ow B w s l) : Ow B w.drew s l := h
theorem Ow.blk (h : Ow B w s l) : ∀ b, blk s = some b → B ≤ b ∧ b < w.heap.size := by
  rcases h with ⟨rfl, rfl⟩ | ⟨b, cap, rest, rfl, h1, hc, hr⟩
  · intro b hb; simp [Fw.blk, Value.ownBlock] at hb
  · intro b' hb'; simp [Fw.blk, Value.ownBlock] at hb'; subst hb'; exact ⟨h1, row_lt hr⟩
theorem Ow.grown (h : Ow B w s l) {r : Option Nat} (hg : w.grownBy w' r) (hne : Fw.blk s ≠ r) : Ow B w' s l := by
  rcases h with ⟨rfl, rfl⟩ | ⟨b, cap, rest, rfl, h1, hc, hr⟩
  · exact Ow.nil B w'
  · refine Or.inr ⟨b, cap, rest, rfl, h1, hc, row_up hr (hg.block b (row_lt hr) ?_)⟩
    intro e; apply hne; rw [← e]; rfl
theorem below_grown {w0 : World} (hB : Below B w0 w) {r : Option Nat} (hg : w.grownBy w' r) (hs : B ≤ w.heap.size) (hr : ∀ b, r = some b → B ≤ b) : Below B w0 w' := hB.grown hg hs hr
theorem Below.up {w0 : World} (hB : Below B w0 w) (hs : B ≤ w.heap.size) (h : Below w.heap.size w w') : Below B w0 w' := hB.trans (h.mono hs)

theorem setRow_heap_self {b : Nat} {cs cs' : List Value} (h : Row w b cs) : Row (setRow w b cs') b cs' := by
  obtain ⟨e, he⟩ := h
  exact ⟨e, Go.setRow_heap w b cs.toArray cs'.toArray e (0, 0) he⟩
theorem setRow_grown (w : World) (b : Nat) (cs : List Value) : w.grownBy (setRow w b cs) (some b) := by
  refine ⟨rfl, rfl, rfl, by simp [setRow, World.setRow], fun k hk hne => ?_⟩
  simp only [setRow, World.setRow, Array.getElem?_modify]
  rw [if_neg (fun e => hne (by rw [e]))]
theorem setCell_row {b : Nat} {cs : List Value} (h : Row w b cs) (i : Nat) (v : Value) : Row (w.setCell ⟨b, i, none⟩ v) b (cs.set i v) := by
  obtain ⟨e, he⟩ := h
  refine ⟨e, ?_⟩
  have hlt := (Array.getElem?_eq_some_iff.1 he).1
  simp only [World.setCell, Array.getElem?_modify, if_true, he, Option.map_some]
  simp
theorem setCell_grown (w : World) (a : Addr) (v : Value) : w.grownBy (w.setCell a v) (some a.block) := by
  refine ⟨rfl, rfl, rfl, by simp [World.setCell], fun k hk hne => ?_⟩
  simp only [World.setCell, Array.getElem?_modify]
  rw [if_neg (fun e => hne (by rw [e]))]
theorem st_ow (h : Ow B w s l) {i : Nat} (hi : i < l.length) (x : α) {K : World → Prop} (hk : ∀ w', Ow B w' s (l.set i x) → w.grownBy w' (Fw.blk s) → K w') : stK w (elP s i) (Cell.v x) K := by
  rcases h with ⟨rfl, rfl⟩ | ⟨b, cap, rest, rfl, h1, hc, hr⟩
  · simp at hi
  · simp only [stK, elP, bs, asP, addr_add0, Nat.zero_add]
    refine ⟨⟨Cell.v l[i], row_cell hr ?_⟩, row_frozen hr i, Cell.sc x, hk _ (Or.inr ⟨b, cap, rest, by simp, h1, by simpa using hc, ?_⟩) ?_⟩
    · rw [List.getElem?_append_left (by simpa using hi), List.getElem?_map, List.getElem?_eq_getElem hi]; rfl
    · have := setCell_row hr i (Cell.v x)
      rw [List.set_append_left _ _ (by simpa using hi), ← List.map_set] at this
      exact this
    · exact setCell_grown w _ _
theorem alloc_row (w : World) (cs : List Value) (e : TypeId) : Row (w.alloc (.cells cs.toArray e)) w.heap.size cs := ⟨e, heap_alloc_new w _⟩
theorem alloc_below (w : World) (o : Obj) : Below w.heap.size w (w.alloc o) := (Below.refl _ _).alloc (Nat.le_refl _) o
/-- A new row, just as long as its slice. -/
theorem ow_alloc (w : World) (l : List α) (e : TypeId) : Ow w.heap.size (w.alloc (.cells (l.map Cell.v).toArray e)) (.slice (some ⟨w.heap.size, 0, none⟩) l.length l.length) l :=
  Or.inr ⟨_, _, [], rfl, Nat.le_refl _, by simp, by rw [List.append_nil]; exact alloc_row w _ e⟩
theorem ow_alloc_room (w : World) (l : List α) (rest : List Value) (e : TypeId) {n : Nat} (hn : n = l.length + rest.length) : Ow w.heap.size (w.alloc (.cells (l.map Cell.v ++ rest).toArray e)) (.slice (some ⟨w.heap.size, 0, none⟩) l.length n) l :=
  Or.inr ⟨_, _, rest, rfl, Nat.le_refl _, by omega, alloc_row w _ e⟩
theorem repL_one (v : Value) (n : Nat) : repL [v] n = List.replicate n v := by
  induction n with
  | zero => rfl
  | succ n ih => simp [repL, ih, List.replicate_succ]
theorem mks_ow {elem bytes : Nat} {d : α} {k k' : IntKind} {n : Nat} {K : Value → World → Prop} (hb : bytes * n ≤ maxBytes) (hn : n < 9223372036854775808)
    (hk : ∀ s' w', Ow w.heap.size w' s' (List.replicate n d) → Below w.heap.size w w' → K s' w') : mksK w elem bytes [Cell.v d] (.int k (n : Int)) (.int k' (n : Int)) K := by
  simp only [mksK, asI]
  refine ⟨⟨by omega, by omega, by omega, by exact_mod_cast hb⟩, ?_⟩
  simp only [Int.toNat_natCast, repL_one]
  have := ow_alloc w (List.replicate n d) elem
  simp only [List.map_replicate, List.length_replicate] at this
  exact hk _ _ this (alloc_below w _)
/-- make([]T, 0, n). -/
theorem mks_ow0 {elem bytes : Nat} {d : α} {k k' : IntKind} {n : Nat} {K : Value → World → Prop} (hb : bytes * n ≤ maxBytes) (hn : n < 9223372036854775808)
    (hk : ∀ s' w', Ow w.heap.size w' s' ([] : List α) → Below w.heap.size w w' → K s' w') : mksK w elem bytes [Cell.v d] (.int k 0) (.int k' (n : Int)) K := by
  simp only [mksK, asI]
  refine ⟨⟨by omega, by omega, by omega, by exact_mod_cast hb⟩, ?_⟩
  simp only [Int.toNat_natCast, repL_one]
  have := ow_alloc_room w ([] : List α) (List.replicate n (Cell.v d)) elem (n := n) (by simp)
  exact hk _ _ this (alloc_below w _)

theorem grown_of_drew {r : Option Nat} (h : w.drew.grownBy w' r) : w.grownBy w' r := ⟨h.os, h.tape, h.output, h.size, h.block⟩
/-- Of a slice that was appended to: the new one lies where it lay, or in new memory. -/
def Near (w : World) (s s' : Value) : Prop := Fw.blk s' = Fw.blk s ∨ ∀ b, Fw.blk s' = some b → w.heap.size ≤ b
theorem Near.ne {s s' s2 : Value} (h : Near w s s') (hne : Fw.blk s2 ≠ Fw.blk s ∨ Fw.blk s2 = none) (h2 : ∀ b, Fw.blk s2 = some b → b < w.heap.size) : Fw.blk s2 ≠ Fw.blk s' ∨ Fw.blk s2 = none := by
  cases hb : Fw.blk s2 with
  | none => exact Or.inr rfl
  | some b =>
    left
    intro e
    rcases h with h | h
    · rcases hne with hne | hne
      · exact hne (by rw [hb, e, h])
      · rw [hb] at hne; cases hne
    · have := h b e.symm; have := h2 b hb; omega
theorem app_ow {elem bytes : Nat} {z : Value} {x : Value} {m : List α} {K : Value → World → Prop} (h : Ow B w s l) (hx : Sl w x m) (hBs : B ≤ w.heap.size) (hb : 2 * (l.length + m.length) * bytes + 1024 * bytes ≤ maxBytes) (hn : l.length + m.length < 4611686018427387904)
    (hk : ∀ s' w', Ow B w' s' (l ++ m) → w.grownBy w' (Fw.blk s) → Near w s s' → K s' w') : appK w elem bytes [z] s x K := by
  obtain ⟨ax, cx, rfl, hrx⟩ := hx.reads
  have hsc : ∀ u ∈ m.map (Cell.v : α → Value), scal u = true := by
    intro u hu; obtain ⟨y, _, rfl⟩ := List.mem_map.1 hu; exact Cell.sc y
  obtain ⟨a, cap, hs, hcap, _⟩ := h.sl.sh
  subst hs
  simp only [appK, appC, asS, List.length_singleton, Nat.mul_one]
  refine ⟨m.map Cell.v, by simp, hrx, hsc, Or.inl hb, hn, ?_⟩
  rcases h with ⟨he, hl⟩ | ⟨b, cap', rest, he, h1, hc, hr⟩
  · have hl0 : l.length = 0 := by rw [hl]; rfl
    have ha : a = none ∧ cap = 0 := by injection he with e1 e2 e3; exact ⟨e1, e3⟩
    obtain ⟨rfl, rfl⟩ := ha
    subst hl
    by_cases hm : m = []
    · subst hm
      rw [if_pos (by simp)]
      exact Or.inl ⟨rfl, rfl, hk _ _ (Ow.nil B w) ⟨rfl, rfl, rfl, Nat.le_refl _, fun _ _ _ => rfl⟩ (Or.inl rfl)⟩
    · have : 0 < m.length := List.length_pos_iff.2 hm
      rw [if_neg (by simp only [List.length_nil]; omega)]
      refine ⟨[], by simp, Or.inl rfl, fun nc hnc => hk _ _ ?_ ?_ ?_⟩
      · have h2 := ow_alloc_room w.drew m (repL [z] (nc - (0 + m.length))) elem (n := nc) (by rw [repL_one]; simp at hnc ⊢; omega)
        simp only [List.length_nil, Nat.zero_add, List.nil_append] at h2 ⊢
        exact h2.mono hBs
      · exact grown_of_drew (World.grownBy_alloc w.drew _ _)
      · right; intro b hb'; simp [Fw.blk, Value.ownBlock] at hb'; omega
  · have ha : a = some ⟨b, 0, none⟩ ∧ cap = cap' := by injection he with e1 e2 e3; exact ⟨e1, e3⟩
    obtain ⟨rfl, rfl⟩ := ha
    by_cases hfit : l.length + m.length ≤ cap
    · rw [if_pos hfit]
      refine Or.inr ⟨b, 0, _, rfl, hr, by simp; omega, hk _ _ (Or.inr ⟨b, cap, rest.drop m.length, by simp, h1, by simp; omega, ?_⟩) (setRow_grown w b _) (Or.inl rfl)⟩
      have hsp : splice (l.map Cell.v ++ rest) (0 + l.length) (m.map Cell.v) = (l ++ m).map Cell.v ++ rest.drop m.length := by
        simp only [splice, Nat.zero_add, List.length_map, List.map_append]
        rw [List.take_append_of_le_length (by simp), List.take_of_length_le (by simp)]
        rw [show l.length + m.length = (l.map (Cell.v : α → Value)).length + m.length by simp, List.drop_length_add_append]
      rw [hsp]
      exact setRow_heap_self hr
    · rw [if_neg hfit]
      refine ⟨l.map Cell.v, by simp, Or.inr ⟨_, rfl, fun j v hj => ?_⟩, fun nc hnc => hk _ _ ?_ ?_ ?_⟩
      · simp only [addr_add0, Nat.zero_add]
        refine row_cell hr ?_
        rw [List.getElem?_append_left (by simpa using (List.getElem?_eq_some_iff.1 hj).1)]; exact hj
      · have h2 := ow_alloc_room w.drew (l ++ m) (repL [z] (nc - (l.length + m.length))) elem (n := nc) (by rw [repL_one]; simp; omega)
        simp only [List.map_append, List.length_append] at h2
        exact h2.mono hBs
      · exact grown_of_drew (World.grownBy_alloc w.drew _ _)
      · right; intro b' hb'; simp [Fw.blk, Value.ownBlock] at hb'; omega
end
end Go.Fw
