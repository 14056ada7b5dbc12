import Derived.Test.YtbaljbadlfopgaaFwTlW
import Derived.Test.YtbaljbadlfopgaaFwStW
set_option linter.all false
/- Rows that are written in place, and of which the empty ones are given new memory. -/
set_option linter.unusedVariables false
set_option linter.unusedSimpArgs false
namespace Go.Fw
open Go Go.RowKit
section
variable {α : Type} [Cell α] {B : Nat} {F : World → Prop} {D : Nat → Prop} {Tm : Nat → List α} {v : Value} {hs : List Hd} {R : Nat → List α} {w w' w0 : World}
theorem OwT.of0 {s : Value} {l : List α} (h : Ow B w s l) (hl : l ≠ []) : OwT B w s l [] := by
  rcases h with ⟨_, h0⟩ | ⟨b, cap, rest, rfl, h1, hc, hr⟩
  · exact absurd h0 hl
  · exact ⟨b, cap, rest, rfl, h1, by simpa using hc, by simpa using hr⟩
/-- A list of rows: what is not empty is memory of its own, with something known in its spare room. -/
structure ShM (B : Nat) (F : World → Prop) (Tm : Nat → List α) (v : Value) (hs : List Hd) (R : Nat → List α) (w : World) : Prop where
  top : Ow B w v hs
  row : ∀ j (hj : j < hs.length), R j ≠ [] → OwT B w (Cell.v hs[j]) (R j) (Tm j)
  emp : ∀ j (hj : j < hs.length), R j = [] → hs[j].n = 0
  apv : ∀ j (hj : j < hs.length), R j ≠ [] → Fw.blk (Cell.v hs[j]) ≠ Fw.blk v
  apr : ∀ i j (hi : i < hs.length) (hj : j < hs.length), i ≠ j → R i ≠ [] → R j ≠ [] → Fw.blk (Cell.v hs[i]) ≠ Fw.blk (Cell.v hs[j])
  frm : F w
theorem ShM.sl (h : ShM B F Tm v hs R w) {j : Nat} (hj : j < hs.length) : Sl w (Cell.v hs[j]) (R j) := by
  by_cases e : R j = []
  · have := h.emp j hj e
    rw [e]
    exact ⟨⟨hs[j].a, hs[j].c, by show Value.slice hs[j].a hs[j].n hs[j].c = _; rw [this]; rfl, Nat.zero_le _, fun h => absurd rfl h⟩, fun i x hx => by simp at hx⟩
  · exact (h.row j hj e).ow.sl
theorem ShM.ln (h : ShM B F Tm v hs R w) {j : Nat} (hj : j < hs.length) : hs[j].n = (R j).length := by
  obtain ⟨a, c, e, -⟩ := (h.sl hj).sh
  injection e
theorem ShM.congr {R' : Nat → List α} (h : ShM B F Tm v hs R w) (e : ∀ j, j < hs.length → R' j = R j) : ShM B F Tm v hs R' w :=
  ⟨h.top, fun j hj hn => by rw [e j hj] at hn ⊢; exact h.row j hj hn, fun j hj hn => h.emp j hj (by rw [← e j hj]; exact hn), fun j hj hn => h.apv j hj (by rw [← e j hj]; exact hn), fun i j hi hj hij a b => h.apr i j hi hj hij (by rw [← e i hi]; exact a) (by rw [← e j hj]; exact b), h.frm⟩
theorem ShM.up (hF : Frm F D) (h : ShM B F Tm v hs R w) (hB : Below w.heap.size w w') : ShM B F Tm v hs R w' :=
  ⟨h.top.up hB, fun j hj hn => (h.row j hj hn).up hB, h.emp, h.apv, h.apr, hF.up _ _ h.frm hB⟩
theorem ShM.st (hF : Frm F D) (h : ShM B F Tm v hs R w) {j i : Nat} (hj : j < hs.length) (hi : i < (R j).length) (hD : ∀ b, Fw.blk (Cell.v hs[j]) = some b → D b) (x : α) {K : World → Prop}
    (hk : ∀ w' b, ShM B F Tm v hs (fun y => if y = j then (R j).set i x else R y) w' → w.grownBy w' (some b) → Fw.blk (Cell.v hs[j]) = some b → K w') : stK w (elP (Cell.v hs[j]) i) (Cell.v x) K := by
  have hne : R j ≠ [] := fun e => by rw [e] at hi; exact absurd hi (Nat.not_lt_zero _)
  have hne2 : (R j).set i x ≠ [] := fun e => by have := congrArg List.length e; rw [List.length_set] at this; rw [this] at hi; exact absurd hi (Nat.not_lt_zero _)
  have hr := h.row j hj hne
  obtain ⟨b, hb, hb1, hb2⟩ := hr.blk
  refine hr.st hi x fun w' hr' hg => ?_
  have hg' : w.grownBy w' (some b) := hb ▸ hg
  have hn : ∀ y, ((fun y => if y = j then (R j).set i x else R y) y ≠ []) → R y ≠ [] := fun y hy e => by
    by_cases hyj : y = j
    · exact hne (hyj ▸ e)
    · simp only [if_neg hyj] at hy; exact hy e
  refine hk w' b ⟨h.top.gr' hg fun c hc e => h.apv j hj hne (by rw [hc, e]), fun y hy hny => ?_, fun y hy e => ?_, fun y hy hny => h.apv y hy (hn y hny), fun y z hy hz hyz a b => h.apr y z hy hz hyz (hn y a) (hn z b), hF.gr _ _ b h.frm (hD b hb) hg'⟩ hg' hb
  · by_cases e : y = j
    · subst e; simp only [if_true]; exact hr'
    · simp only [if_neg e]
      exact (h.row y hy (hn y hny)).grown hg (h.apr y j hy hj e (hn y hny) hne)
  · by_cases e2 : y = j
    · simp only [if_pos e2] at e; exact absurd e hne2
    · simp only [if_neg e2] at e; exact h.emp y hy e
theorem ShM.putH (hF : Frm F D) (h0 : ShM B F Tm v hs R w0) (h : ShM B F Tm v hs R w) {j : Nat} (hj : j < hs.length) (he : R j = []) (hT : Tm j = []) (hD : ∀ b, Fw.blk v = some b → D b) (x : Hd) {l : List α} (hl : l ≠ []) (ho : Ow w0.heap.size w (Cell.v x) l) (hB : B ≤ w0.heap.size) {K : World → Prop}
    (hk : ∀ w' b, ShM B F Tm v (hs.set j x) (fun y => if y = j then l else R y) w' → w.grownBy w' (some b) → Fw.blk v = some b → K w') : stK w (elP v j) (Cell.v x) K := by
  obtain ⟨b, hb, -⟩ := h.top.sl.blk_lt (by rintro rfl; simp at hj)
  obtain ⟨-, hvb⟩ := h0.top.blk b hb
  have hx := OwT.of0 ho hl
  obtain ⟨bx, hbx, hbx1, -⟩ := hx.blk
  refine st_ow h.top hj x fun w' ht hg => ?_
  have hg' : w.grownBy w' (some b) := hb ▸ hg
  have hn : ∀ y, y ≠ j → ((fun y => if y = j then l else R y) y ≠ []) → R y ≠ [] := fun y hyj hy e => by
    simp only [if_neg hyj] at hy; exact hy e
  have hlow : ∀ y (hy : y < hs.length), R y ≠ [] → Fw.blk (Cell.v hs[y]) ≠ some bx := fun y hy hny e => by
    obtain ⟨c, hc, -, hc2⟩ := (h0.row y hy hny).blk
    rw [hc] at e; cases e; omega
  refine hk w' b ⟨ht, fun y hy hny => ?_, fun y hy e => ?_, fun y hy hny => ?_, fun y z hy hz hyz a c => ?_, hF.gr _ _ b h.frm (hD b hb) hg'⟩ hg' hb
  · rw [List.length_set] at hy
    by_cases e : y = j
    · subst e
      simp only [if_true, List.getElem_set_self, hT]
      exact (hx.mono hB).grown hg (by rw [hbx, hb]; intro e; cases e; omega)
    · simp only [if_neg e]
      rw [List.getElem_set_ne (fun e' => e e'.symm)]
      exact (h.row y hy (hn y e hny)).grown hg (h.apv y hy (hn y e hny))
  · rw [List.length_set] at hy
    by_cases e2 : y = j
    · simp only [if_pos e2] at e; exact absurd e hl
    · simp only [if_neg e2] at e
      rw [List.getElem_set_ne (fun e' => e2 e'.symm)]
      exact h.emp y hy e
  · rw [List.length_set] at hy
    by_cases e : y = j
    · subst e
      rw [List.getElem_set_self, hbx, hb]; intro e; cases e; omega
    · rw [List.getElem_set_ne (fun e' => e e'.symm)]
      exact h.apv y hy (hn y e hny)
  · have hy' : y < hs.length := by rw [List.length_set] at hy; exact hy
    have hz' : z < hs.length := by rw [List.length_set] at hz; exact hz
    by_cases e : y = j
    · have e2 : z ≠ j := fun e2 => hyz (by rw [e, e2])
      subst e
      rw [List.getElem_set_self, List.getElem_set_ne (fun e' => e2 e'.symm), hbx]
      exact fun e => hlow z hz' (hn z e2 c) e.symm
    · rw [List.getElem_set_ne (fun e' => e e'.symm)]
      by_cases e2 : z = j
      · subst e2
        rw [List.getElem_set_self, hbx]
        exact hlow y hy' (hn y e a)
      · rw [List.getElem_set_ne (fun e' => e2 e'.symm)]
        exact h.apr y z hy' hz' hyz (hn y e a) (hn z e2 c)
theorem ShM.frame {F' : World → Prop} (h : ShM B F Tm v hs R w) (hf : F' w) : ShM B F' Tm v hs R w := ⟨h.top, h.row, h.emp, h.apv, h.apr, hf⟩
theorem ShM.mono {B' : Nat} (h : ShM B F Tm v hs R w) (hB : B' ≤ B) : ShM B' F Tm v hs R w := ⟨h.top.mono hB, fun j hj hn => (h.row j hj hn).mono hB, h.emp, h.apv, h.apr, h.frm⟩
/-- A row is cut off: an empty header in its place. -/
theorem ShM.cut (hF : Frm F D) (h : ShM B F Tm v hs R w) {j : Nat} (hj : j < hs.length) (hD : ∀ b, Fw.blk v = some b → D b) (x : Hd) (hx : x.n = 0) {K : World → Prop}
    (hk : ∀ w' b, ShM B F Tm v (hs.set j x) (fun y => if y = j then [] else R y) w' → w.grownBy w' (some b) → Fw.blk v = some b → K w') : stK w (elP v j) (Cell.v x) K := by
  obtain ⟨b, hb, -⟩ := h.top.sl.blk_lt (by rintro rfl; simp at hj)
  refine st_ow h.top hj x fun w' ht hg => ?_
  have hg' : w.grownBy w' (some b) := hb ▸ hg
  have hn : ∀ y, ((fun y => if y = j then [] else R y) y ≠ []) → j ≠ y ∧ R y ≠ [] := fun y hy => by
    by_cases e : y = j
    · simp only [if_pos e] at hy; exact absurd rfl hy
    · simp only [if_neg e] at hy; exact ⟨fun e' => e e'.symm, hy⟩
  refine hk w' b ⟨ht, fun y hy hny => ?_, fun y hy e => ?_, fun y hy hny => ?_, fun y z hy hz hyz a c => ?_, hF.gr _ _ b h.frm (hD b hb) hg'⟩ hg' hb
  · have hy' : y < hs.length := by rw [List.length_set] at hy; exact hy
    obtain ⟨h1, h2⟩ := hn y hny
    simp only [if_neg (fun e => h1 (Eq.symm e))]
    rw [List.getElem_set_ne h1]
    exact (h.row y hy' h2).grown hg (h.apv y hy' h2)
  · have hy' : y < hs.length := by rw [List.length_set] at hy; exact hy
    by_cases e2 : j = y
    · subst e2; rw [List.getElem_set_self]; exact hx
    · rw [List.getElem_set_ne e2]
      simp only [if_neg (fun e => e2 (Eq.symm e))] at e
      exact h.emp y hy' e
  · have hy' : y < hs.length := by rw [List.length_set] at hy; exact hy
    obtain ⟨h1, h2⟩ := hn y hny
    rw [List.getElem_set_ne h1]
    exact h.apv y hy' h2
  · have hy' : y < hs.length := by rw [List.length_set] at hy; exact hy
    have hz' : z < hs.length := by rw [List.length_set] at hz; exact hz
    obtain ⟨h1, h2⟩ := hn y a
    obtain ⟨h3, h4⟩ := hn z c
    rw [List.getElem_set_ne h1, List.getElem_set_ne h3]
    exact h.apr y z hy' hz' hyz h2 h4
end
section
variable {α : Type} [Cell α] {B : Nat} {F : World → Prop} {Df : Nat → Prop} {Tm : Nat → List α} {v : Value} {hs : List Hd} {R : Nat → List α} {w w' w0 : World} {P : Program} {d : Option Nat} {L : List D} {Q : T → World → Prop} {t : T} {n_ : Nat} {u_ : List Nat} {rs_ : List RN} {es_ : List EN}
theorem ShM.Est (hF : Frm F Df) (h : ShM B F Tm v hs R w) {j i : Nat} (hj : j < hs.length) (hi : i < (R j).length) (hD : ∀ b, Fw.blk (Cell.v hs[j]) = some b → Df b) (x : α)
    (hk : ∀ w' b, ShM B F Tm v hs (fun y => if y = j then (R j).set i x else R y) w' → w.grownBy w' (some b) → Fw.blk (Cell.v hs[j]) = some b → okR P u_ w' rs_ ∧ WE P Q L rs_ ((n_, w) :: es_) (put t d undef) w') : XE P n_ (.st (.c (elP (Cell.v hs[j]) i)) (.c (Cell.v x))) u_ d L Q rs_ es_ t w :=
  XE_eff rfl (h.st hF hj hi hD x hk)
theorem ShM.Xst (hF : Frm F Df) (h : ShM B F Tm v hs R w) {j i : Nat} (hj : j < hs.length) (hi : i < (R j).length) (hD : ∀ b, Fw.blk (Cell.v hs[j]) = some b → Df b) (x : α)
    (hk : ∀ w' b, ShM B F Tm v hs (fun y => if y = j then (R j).set i x else R y) w' → w.grownBy w' (some b) → Fw.blk (Cell.v hs[j]) = some b → W P Q L (put t d undef) w') : XW P (.st (.c (elP (Cell.v hs[j]) i)) (.c (Cell.v x))) d L Q t w :=
  h.st hF hj hi hD x hk
theorem ShM.Xput (hF : Frm F Df) (h0 : ShM B F Tm v hs R w0) (h : ShM B F Tm v hs R w) {j : Nat} (hj : j < hs.length) (he : R j = []) (hT : Tm j = []) (hD : ∀ b, Fw.blk v = some b → Df b) (x : Hd) {l : List α} (hl : l ≠ []) (ho : Ow w0.heap.size w (Cell.v x) l) (hB : B ≤ w0.heap.size)
    (hk : ∀ w' b, ShM B F Tm v (hs.set j x) (fun y => if y = j then l else R y) w' → w.grownBy w' (some b) → Fw.blk v = some b → W P Q L (put t d undef) w') : XW P (.st (.c (elP v j)) (.c (Cell.v x))) d L Q t w :=
  ShM.putH hF h0 h hj he hT hD x hl ho hB hk
theorem ShM.Xcut (hF : Frm F Df) (h : ShM B F Tm v hs R w) {j : Nat} (hj : j < hs.length) (hD : ∀ b, Fw.blk v = some b → Df b) (x : Hd) (hx : x.n = 0)
    (hk : ∀ w' b, ShM B F Tm v (hs.set j x) (fun y => if y = j then [] else R y) w' → w.grownBy w' (some b) → Fw.blk v = some b → W P Q L (put t d undef) w') : XW P (.st (.c (elP v j)) (.c (Cell.v x))) d L Q t w :=
  ShM.cut hF h hj hD x hx hk
end
end Go.Fw
