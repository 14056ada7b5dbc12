import Derived.Test.YtbaljbadlfopgaaFwZW
set_option linter.all false
/- Lists that are grown one by one, their headers kept in a list. -/
set_option linter.unusedVariables false
set_option linter.unusedSimpArgs false
namespace Go.Fw
open Go Go.RowKit
section
variable {α : Type} [Cell α] {B : Nat} {w w' : World} {s g g' : Value} {l m : List α}
theorem below_none (hg : w.grownBy w' none) : Below w.heap.size w w' := ⟨hg.os, hg.tape, hg.output, hg.size, fun k hk => hg.block k hk (by intro e; cases e)⟩
/-- What a step left alone. -/
def Keep (w w' : World) (r : Option Nat) : Prop := ∀ k, k < w.heap.size → r ≠ some k → w'.heap[k]? = w.heap[k]?
theorem keep_grown {r : Option Nat} (hg : w.grownBy w' r) : Keep w w' r := fun k hk hne => hg.block k hk (fun e => hne e.symm)
theorem Grew.keep (h : Grew w w' g g') : Keep w w' (Fw.blk g) := by
  rcases h with ⟨_, h⟩ | ⟨_, h⟩
  · exact keep_grown h
  · exact fun k hk _ => h.block k hk
theorem Grew.new (h : Grew w w' g g') : Fw.blk g' = Fw.blk g ∨ ∀ b, Fw.blk g' = some b → w.heap.size ≤ b := by
  rcases h with ⟨h, _⟩ | ⟨h, _⟩
  · exact Or.inl h
  · exact Or.inr h
theorem Sl.keep {r : Option Nat} (h : Sl w s l) (hk : Keep w w' r) (hne : ∀ b, Fw.blk s = some b → r ≠ some b) : Sl w' s l := by
  refine ⟨h.sh, fun i x hx => ?_⟩
  have hc := h.rd i x hx
  obtain ⟨a, cap, hs, _, hp⟩ := h.sh
  have hl : l ≠ [] := by rintro rfl; simp at hx
  obtain ⟨p, rfl⟩ := hp hl
  have hlt := block_lt hc
  have hb := hk _ hlt (by rw [add_block]; exact hne p.block (by rw [hs]; rfl) |> fun h => by rw [show (bs s).block = p.block by rw [hs]; rfl]; exact h)
  unfold World.cell? at hc ⊢
  rw [hb]
  exact hc
theorem Ow.keep {r : Option Nat} (h : Ow B w s l) (hk : Keep w w' r) (hne : ∀ b, Fw.blk s = some b → r ≠ some b) : Ow B w' s l := by
  rcases h with ⟨rfl, rfl⟩ | ⟨b, cap, rest, rfl, h1, hc, hr⟩
  · exact Ow.nil B w'
  · exact Or.inr ⟨b, cap, rest, rfl, h1, hc, row_up hr (hk b (row_lt hr) (hne b rfl))⟩
theorem Sl.empty (h : Sl w s ([] : List α)) (w' : World) : Sl w' s ([] : List α) := ⟨h.sh, fun i x hx => by simp at hx⟩
end
structure Gr {α : Type} [Cell α] (B : Nat) (F : World → Prop) (rows : Value) (gsb : Nat) (hs : List Hd) (Gv : Nat → Value) (R E : Nat → List α) (w : World) : Prop where
  rl : Sl w rows hs
  hr : ∀ j, j < hs.length → Sl w (Hj hs j) (R j)
  gr : ∀ j, j < hs.length → Ow B w (Gv j) (E j)
  pr : ∀ j, j < hs.length → ∃ e, E j = R j ++ e
  sh : ∀ j, j < hs.length → R j ≠ [] → ∃ b c, Hj hs j = .slice (some ⟨b, 0, none⟩) (R j).length c
  hb : ∀ j b, j < hs.length → Fw.blk (Hj hs j) = some b → b < gsb ∧ Fw.blk rows ≠ some b
  rb : ∀ b, Fw.blk rows = some b → b < gsb
  gk : ∀ j b, j < hs.length → Fw.blk (Gv j) = some b → Fw.blk (Hj hs j) = some b ∨ gsb < b
  h2 : ∀ j m b, j < hs.length → m < hs.length → j ≠ m → Fw.blk (Hj hs j) = some b → Fw.blk (Hj hs m) ≠ some b
  g2 : ∀ j m b, j < hs.length → m < hs.length → j ≠ m → Fw.blk (Gv j) = some b → Fw.blk (Gv m) ≠ some b
  fr : F w
  sz : B ≤ w.heap.size
  zs : gsb < w.heap.size
section
variable {α : Type} [Cell α] {B : Nat} {F : World → Prop} {D : Nat → Prop} {rows gs : Value} {gsb : Nat} {hs : List Hd} {Gv : Nat → Value} {R E : Nat → List α} {i : Nat} {w w' : World}
theorem Gr.up (hF : Frm F D) (h : Gr B F rows gsb hs Gv R E w) (hB : Below w.heap.size w w') : Gr B F rows gsb hs Gv R E w' :=
  ⟨h.rl.up hB, fun j hj => (h.hr j hj).up hB, fun j hj => (h.gr j hj).up hB, h.pr, h.sh, h.hb, h.rb, h.gk, h.h2, h.g2, hF.up _ _ h.fr hB, Nat.le_trans h.sz hB.size, Nat.lt_of_lt_of_le h.zs hB.size⟩
/-- Writing into the list of the grown headers. -/
theorem Gr.st (hF : Frm F D) (hDg : D gsb) (h : Gr B F rows gsb hs Gv R E w) (hg : w.grownBy w' (some gsb)) : Gr B F rows gsb hs Gv R E w' := by
  have hk := keep_grown hg
  refine ⟨h.rl.keep hk fun b hb e => ?_, fun j hj => (h.hr j hj).keep hk fun b hb e => ?_, fun j hj => (h.gr j hj).keep hk fun b hb e => ?_, h.pr, h.sh, h.hb, h.rb, h.gk, h.h2, h.g2, hF.gr _ _ _ h.fr hDg hg, Nat.le_trans h.sz hg.size, Nat.lt_of_lt_of_le h.zs hg.size⟩
  · cases e; have := h.rb gsb hb; omega
  · cases e; have := (h.hb j gsb hj hb).1; omega
  · cases e
    rcases h.gk j gsb hj hb with h1 | h1
    · have := (h.hb j gsb hj h1).1; omega
    · omega
theorem Gr.app (hF : Frm F D) (hD : ∀ j b, j < hs.length → Fw.blk (Hj hs j) = some b → D b) (hDg : ∀ b, gsb ≤ b → D b) (h : Gr B F rows gsb hs Gv R E w) (hi : i < hs.length) {g' : Value} {m : List α} (ho : Ow B w' g' (E i ++ m)) (hg : Grew w w' (Gv i) g') :
    Gr B F rows gsb hs (fun j => if j = i then g' else Gv j) R (fun j => if j = i then E i ++ m else E j) w' := by
  have hk := hg.keep
  have hn := hg.new
  have hsz := hg.size
  have hgb : ∀ b, Fw.blk (Gv i) = some b → (Fw.blk (Hj hs i) = some b ∨ gsb < b) := fun b hb => h.gk i b hi hb
  refine ⟨h.rl.keep hk fun b hb e => ?_, fun j hj => ?_, fun j hj => ?_, fun j hj => ?_, h.sh, h.hb, h.rb, fun j b hj hb => ?_, h.h2, fun j k b hj hkk hjk h1 h2 => ?_, ?_, Nat.le_trans h.sz hsz, Nat.lt_of_lt_of_le h.zs hsz⟩
  · rcases hgb b e with h1 | h1
    · exact (h.hb i b hi h1).2 hb
    · have := h.rb b hb; omega
  · by_cases hR : R j = []
    · have := h.hr j hj
      rw [hR] at this ⊢
      exact this.empty w'
    by_cases hji : j = i
    · subst hji
      by_cases hsame : Fw.blk (Hj hs j) = Fw.blk (Gv j)
      · rcases hg with ⟨e1, -⟩ | ⟨-, hB⟩
        · obtain ⟨e, he⟩ := h.pr j hj
          rw [he, List.append_assoc] at ho
          exact ho.pre (h.hr j hj) (hsame.trans e1.symm) (h.sh j hj hR) hR
        · exact (h.hr j hj).up hB
      · refine (h.hr j hj).keep hk fun b hb e => hsame (hb.trans e.symm)
    · refine (h.hr j hj).keep hk fun b hb e => ?_
      rcases hgb b e with h1 | h1
      · exact h.h2 j i b hj hi hji hb h1
      · have := (h.hb j b hj hb).1; omega
  · by_cases hji : j = i
    · rw [if_pos hji, if_pos hji]; exact ho
    · rw [if_neg hji, if_neg hji]
      exact (h.gr j hj).keep hk fun b hb e => h.g2 j i b hj hi hji hb e
  · by_cases hji : j = i
    · rw [if_pos hji]
      subst hji
      obtain ⟨e, he⟩ := h.pr j hj
      exact ⟨e ++ m, by rw [he, List.append_assoc]⟩
    · rw [if_neg hji]; exact h.pr j hj
  · by_cases hji : j = i
    · rw [if_pos hji] at hb
      subst hji
      rcases hn with h1 | h1
      · rw [h1] at hb; exact h.gk j b hj hb
      · right; have := h1 b hb; have := h.zs; omega
    · rw [if_neg hji] at hb; exact h.gk j b hj hb
  · by_cases hji : j = i
    · rw [if_pos hji] at h1
      rw [if_neg (fun e => hjk (hji.trans e.symm))] at h2
      subst hji
      rcases hn with h3 | h3
      · rw [h3] at h1; exact h.g2 j k b hj hkk hjk h1 h2
      · have := h3 b h1
        have := ((h.gr k hkk).blk b h2).2
        omega
    · rw [if_neg hji] at h1
      by_cases hki : k = i
      · rw [if_pos hki] at h2
        subst hki
        rcases hn with h3 | h3
        · rw [h3] at h2; exact h.g2 j k b hj hkk hjk h1 h2
        · have := h3 b h2
          have := ((h.gr j hj).blk b h1).2
          omega
      · rw [if_neg hki] at h2
        exact h.g2 j k b hj hkk hjk h1 h2
  · rcases hg with ⟨-, hgr⟩ | ⟨-, hB⟩
    · cases hb : Fw.blk (Gv i) with
      | none => rw [hb] at hgr; exact hF.up _ _ h.fr (below_none hgr)
      | some b =>
        rw [hb] at hgr
        refine hF.gr _ _ b h.fr ?_ hgr
        rcases hgb b hb with h1 | h1
        · exact hD i b hi h1
        · exact hDg b (by omega)
    · exact hF.up _ _ h.fr hB
end
end Go.Fw
