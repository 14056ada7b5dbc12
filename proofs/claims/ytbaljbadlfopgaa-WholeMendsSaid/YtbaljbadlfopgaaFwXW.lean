import Derived.Test.YtbaljbadlfopgaaFwVW
set_option linter.all false
/- Lists that are grown, each within memory of its own. -/
set_option linter.unusedVariables false
set_option linter.unusedSimpArgs false
namespace Go.Fw
open Go Go.RowKit
/-- What an append did: it wrote into the room behind, or went to new memory. -/
def Grew (w w' : World) (s s' : Value) : Prop := (Fw.blk s' = Fw.blk s ∧ w.grownBy w' (Fw.blk s)) ∨ ((∀ b, Fw.blk s' = some b → w.heap.size ≤ b) ∧ Below w.heap.size w w')
section
variable {α : Type} [Cell α] {B : Nat} {w w' : World} {s x : Value} {l m : List α}
theorem drew_below (w : World) (o : Obj) : Below w.heap.size w (w.drew.alloc o) := (bel_drew w).trans (alloc_below w.drew o)
theorem app_ow2 {elem bytes : Nat} {z : Value} {K : Value → World → Prop} (h : Ow B w s l) (hx : Sl w x m) (hBs : B ≤ w.heap.size) (hb : 2 * (l.length + m.length) * bytes + 1024 * bytes ≤ maxBytes) (hn : l.length + m.length < 4611686018427387904)
    (hk : ∀ s' w', Ow B w' s' (l ++ m) → Grew w w' s s' → K s' w') : appK w elem bytes [z] s x K := by
  obtain ⟨ax, cx, rfl, hrx⟩ := hx.reads
  have hsc : ∀ u ∈ m.map (Cell.v : α → Value), scal u = true := by
    intro u hu; obtain ⟨y, _, rfl⟩ := List.mem_map.1 hu; exact Cell.sc y
  obtain ⟨a, cap, hs, hcap, _⟩ := h.sl.sh
  subst hs
  simp only [appK, appC, asS, List.length_singleton, Nat.mul_one]
  refine ⟨m.map Cell.v, by simp, hrx, hsc, Or.inl hb, hn, ?_⟩
  rcases h with ⟨he, hl⟩ | ⟨b, cap', rest, he, h1, hc, hr⟩
  · have hl0 : l.length = 0 := by rw [hl]; rfl
    have ha : a = none ∧ cap = 0 := by injection he with e1 e2 e3; exact ⟨e1, e3⟩
    obtain ⟨rfl, rfl⟩ := ha
    subst hl
    by_cases hm : m = []
    · subst hm
      rw [if_pos (by simp)]
      exact Or.inl ⟨rfl, rfl, hk _ _ (Ow.nil B w) (Or.inl ⟨rfl, rfl, rfl, rfl, Nat.le_refl _, fun _ _ _ => rfl⟩)⟩
    · have : 0 < m.length := List.length_pos_iff.2 hm
      rw [if_neg (by simp only [List.length_nil]; omega)]
      refine ⟨[], by simp, Or.inl rfl, fun nc hnc => hk _ _ ?_ (Or.inr ⟨?_, drew_below _ _⟩)⟩
      · have h2 := ow_alloc_room w.drew m (repL [z] (nc - (0 + m.length))) elem (n := nc) (by rw [repL_one]; simp at hnc ⊢; omega)
        simp only [List.length_nil, Nat.zero_add, List.nil_append] at h2 ⊢
        exact h2.mono hBs
      · intro b hb'; simp [Fw.blk, Value.ownBlock] at hb'; omega
  · have ha : a = some ⟨b, 0, none⟩ ∧ cap = cap' := by injection he with e1 e2 e3; exact ⟨e1, e3⟩
    obtain ⟨rfl, rfl⟩ := ha
    by_cases hfit : l.length + m.length ≤ cap
    · rw [if_pos hfit]
      refine Or.inr ⟨b, 0, _, rfl, hr, by simp; omega, hk _ _ (Or.inr ⟨b, cap, rest.drop m.length, by simp, h1, by simp; omega, ?_⟩) (Or.inl ⟨rfl, setRow_grown w b _⟩)⟩
      have hsp : splice (l.map Cell.v ++ rest) (0 + l.length) (m.map Cell.v) = (l ++ m).map Cell.v ++ rest.drop m.length := by
        simp only [splice, Nat.zero_add, List.length_map, List.map_append]
        rw [List.take_append_of_le_length (by simp), List.take_of_length_le (by simp)]
        rw [show l.length + m.length = (l.map (Cell.v : α → Value)).length + m.length by simp, List.drop_length_add_append]
      rw [hsp]
      exact setRow_heap_self hr
    · rw [if_neg hfit]
      refine ⟨l.map Cell.v, by simp, Or.inr ⟨_, rfl, fun j v hj => ?_⟩, fun nc hnc => hk _ _ ?_ (Or.inr ⟨?_, drew_below _ _⟩)⟩
      · simp only [addr_add0, Nat.zero_add]
        refine row_cell hr ?_
        rw [List.getElem?_append_left (by simpa using (List.getElem?_eq_some_iff.1 hj).1)]; exact hj
      · have h2 := ow_alloc_room w.drew (l ++ m) (repL [z] (nc - (l.length + m.length))) elem (n := nc) (by rw [repL_one]; simp; omega)
        simp only [List.map_append, List.length_append] at h2
        exact h2.mono hBs
      · intro b' hb'; simp [Fw.blk, Value.ownBlock] at hb'; omega
theorem Ow.Xapp2 {P : Program} {d : Option Nat} {L : List D} {Q : T → World → Prop} {t : T} {e b : Nat} {z : Value} (h : Ow B w s l) (hx : Sl w x m) (hBs : B ≤ w.heap.size) (hb : 2 * (l.length + m.length) * b + 1024 * b ≤ maxBytes) (hn : l.length + m.length < 4611686018427387904)
    (hk : ∀ s' w', Ow B w' s' (l ++ m) → Grew w w' s s' → W P Q L (put t d s') w') : XW P (.app e b [z] (.c s) (.c x)) d L Q t w := app_ow2 (K := fun v w' => W P Q L (put t d v) w') h hx hBs hb hn hk
theorem Grew.below {w0 : World} (h : Grew w w' s x) (hB : Below B w0 w) (hs : B ≤ w.heap.size) (hb : ∀ b, Fw.blk s = some b → B ≤ b) : Below B w0 w' := by
  rcases h with ⟨_, hg⟩ | ⟨_, hb'⟩
  · exact hB.grown hg hs hb
  · exact hB.trans (hb'.mono hs)
theorem Grew.size (h : Grew w w' s x) : w.heap.size ≤ w'.heap.size := by
  rcases h with ⟨_, hg⟩ | ⟨_, hb'⟩
  · exact hg.size
  · exact hb'.size
/-- A view of the beginning. -/
theorem Ow.pre {g : Value} {r e : List α} {h : Value} (ho : Ow B w g (r ++ e)) (hr : Sl w' h r) (hb : Fw.blk h = Fw.blk g) (h0 : ∃ b c, h = .slice (some ⟨b, 0, none⟩) r.length c) (hne : r ≠ []) : Sl w h r := by
  obtain ⟨b, c, rfl⟩ := h0
  obtain ⟨a', cap', e1, hle, -⟩ := hr.sh
  have hg := ho.sl
  have hrd : ∀ i x, r[i]? = some x → w.cell? ((bs g).add i) = some (Cell.v x) := fun i x hx => hg.rd i x (by rw [List.getElem?_append_left (List.getElem?_eq_some_iff.1 hx).1]; exact hx)
  have hbs : bs g = ⟨b, 0, none⟩ := by
    rcases ho with ⟨rfl, hl⟩ | ⟨b', cap, rest, rfl, -, -, -⟩
    · have := congrArg List.length hl; simp at this; exact absurd this.1 hne
    · simp [Fw.blk, Value.ownBlock] at hb
      subst hb
      rfl
  injection e1 with _ _ e4
  refine ⟨⟨_, _, rfl, by omega, fun _ => ⟨_, rfl⟩⟩, fun i x hx => ?_⟩
  have := hrd i x hx
  rw [hbs] at this
  exact this
end
def hdn : Hd := ⟨none, 0, 0⟩
theorem getD_setD {α : Type} (R : List α) {i : Nat} (h : i < R.length) (a d : α) (x : Nat) : (R.set i a).getD x d = if x = i then a else R.getD x d := by
  simp only [List.getD_eq_getElem?_getD, List.getElem?_set]
  by_cases hx : x = i
  · subst hx; rw [if_pos rfl, if_pos rfl, if_pos h]; rfl
  · rw [if_neg (fun e => hx e.symm), if_neg hx]
/-- What else is known of the memory: it stays while only blocks of D are written and new memory is added. -/
structure Frm (F : World → Prop) (D : Nat → Prop) : Prop where
  gr : ∀ w w' b, F w → D b → w.grownBy w' (some b) → F w'
  up : ∀ w w', F w → Below w.heap.size w w' → F w'
/-- The j-th header as a value -/
def Hj (hs : List Hd) (j : Nat) : Value := Cell.v (hs.getD j hdn)
/-- Lists in memory of their own (headers hs), the first i of them grown (headers G) while the old headers still read; those from k on untouched. -/
structure Gst {α : Type} [Cell α] (B : Nat) (F : World → Prop) (rows gs : Value) (gsb : Nat) (hs : List Hd) (R : Nat → List α) (G : List Hd) (E : Nat → List α) (i k : Nat) (w : World) : Prop where
  rl : Sl w rows hs
  go : Ow B w gs G
  gb : Fw.blk gs = some gsb
  gl : G.length = hs.length
  ne : ∀ j, j < hs.length → R j ≠ []
  hr : ∀ j, j < hs.length → Sl w (Hj hs j) (R j) ∧ ∃ b c, Hj hs j = .slice (some ⟨b, 0, none⟩) (R j).length c
  ho : ∀ j, k ≤ j → j < hs.length → Ow B w (Hj hs j) (R j)
  gr : ∀ j, j < i → Ow B w (Hj G j) (E j)
  hb : ∀ j b, j < hs.length → Fw.blk (Hj hs j) = some b → b < gsb ∧ Fw.blk rows ≠ some b
  h2 : ∀ j m b, j < hs.length → m < hs.length → j ≠ m → Fw.blk (Hj hs j) = some b → Fw.blk (Hj hs m) ≠ some b
  rb : ∀ b, Fw.blk rows = some b → b < gsb
  gk : ∀ j b, j < i → Fw.blk (Hj G j) = some b → Fw.blk (Hj hs j) = some b ∨ (gsb < b ∧ ∀ m, m < i → m ≠ j → Fw.blk (Hj G m) ≠ some b)
  fr : F w
  sz : B ≤ w.heap.size
/-- The list that is being grown. -/
structure Gcur {α : Type} [Cell α] (B : Nat) (gsb : Nat) (hs : List Hd) (R : Nat → List α) (G : List Hd) (i : Nat) (g : Value) (l : List α) (w : World) : Prop where
  own : Ow B w g l
  pre : ∃ e, l = R i ++ e
  bl : ∀ b, Fw.blk g = some b → Fw.blk (Hj hs i) = some b ∨ (gsb < b ∧ ∀ m, m < i → Fw.blk (Hj G m) ≠ some b)
section
variable {α : Type} [Cell α] {B : Nat} {F : World → Prop} {D : Nat → Prop} {rows gs : Value} {gsb : Nat} {hs : List Hd} {R : Nat → List α} {G : List Hd} {E : Nat → List α} {i k : Nat} {w w' : World}
theorem Gst.up (hF : Frm F D) (h : Gst B F rows gs gsb hs R G E i k w) (hB : Below w.heap.size w w') : Gst B F rows gs gsb hs R G E i k w' :=
  ⟨h.rl.up hB, h.go.up hB, h.gb, h.gl, h.ne, fun j hj => ⟨(h.hr j hj).1.up hB, (h.hr j hj).2⟩, fun j h1 h2 => (h.ho j h1 h2).up hB, fun j hj => (h.gr j hj).up hB, h.hb, h.h2, h.rb, h.gk, hF.up _ _ h.fr hB, Nat.le_trans h.sz hB.size⟩
theorem Gcur.up {g : Value} {l : List α} (h : Gcur B gsb hs R G i g l w) (hB : Below w.heap.size w w') : Gcur B gsb hs R G i g l w' := ⟨h.own.up hB, h.pre, h.bl⟩
theorem Gst.app (hF : Frm F D) (hD : ∀ j b, j < hs.length → Fw.blk (Hj hs j) = some b → D b) (hDg : ∀ b, gsb ≤ b → D b) {g g' : Value} {l m : List α} (h : Gst B F rows gs gsb hs R G E i (i + 1) w) (hi : i < hs.length) (hk : i ≤ hs.length) (hc : Gcur B gsb hs R G i g l w) (ho : Ow B w' g' (l ++ m)) (hg : Grew w w' g g') :
    Gst B F rows gs gsb hs R G E i (i + 1) w' ∧ Gcur B gsb hs R G i g' (l ++ m) w' := by
  obtain ⟨e, he⟩ := hc.pre
  have hpre' : ∃ e, l ++ m = R i ++ e := ⟨e ++ m, by rw [he, List.append_assoc]⟩
  have hgsz : gsb < w.heap.size := (h.go.blk gsb h.gb).2
  rcases hg with ⟨hbl, hgr⟩ | ⟨hfr, hbe⟩
  · have hlne : l ≠ [] := by rw [he]; simp [h.ne i hi]
    obtain ⟨b, hb, -⟩ := hc.own.sl.blk_lt hlne
    have hcb := hc.bl b hb
    have hne_h : ∀ j, j < hs.length → j ≠ i → Fw.blk (Hj hs j) ≠ some b := fun j hj hji e => by
      rcases hcb with h1 | ⟨h1, -⟩
      · exact h.h2 i j b hi hj (fun e => hji e.symm) h1 e
      · have := (h.hb j b hj e).1; omega
    have hne_g : ∀ j, j < i → Fw.blk (Hj G j) ≠ some b := fun j hj e => by
      rcases hcb with h1 | ⟨-, h1⟩
      · rcases h.gk j b hj e with h2 | ⟨h2, -⟩
        · exact h.h2 i j b hi (by omega) (by omega) h1 h2
        · have := (h.hb i b hi h1).1; omega
      · exact h1 j hj e
    have hne_gs : Fw.blk gs ≠ some b := fun e => by
      rw [h.gb] at e
      cases e
      rcases hcb with h1 | ⟨h1, -⟩
      · have := (h.hb i _ hi h1).1; omega
      · omega
    have hne_r : Fw.blk rows ≠ some b := fun e => by
      rcases hcb with h1 | ⟨h1, -⟩
      · exact (h.hb i b hi h1).2 e
      · have := h.rb b e; omega
    rw [hb] at hgr
    refine ⟨⟨h.rl.grown hgr (Or.inl hne_r), h.go.grown hgr hne_gs, h.gb, h.gl, h.ne, fun j hj => ⟨?_, (h.hr j hj).2⟩, fun j h1 h2 => (h.ho j h1 h2).grown hgr (hne_h j h2 (by omega)), fun j hj => (h.gr j hj).grown hgr (hne_g j hj), h.hb, h.h2, h.rb, h.gk,
      hF.gr _ _ b h.fr (hcb.elim (fun e => hD i b hi e) (fun e => hDg b (by omega))) hgr, Nat.le_trans h.sz hgr.size⟩, ⟨ho, hpre', fun b' hb' => hc.bl b' (hbl ▸ hb')⟩⟩
    by_cases hji : j = i
    · subst hji
      by_cases hsame : Fw.blk (Hj hs j) = Fw.blk g'
      · obtain ⟨e2, he2⟩ := hpre'
        rw [he2] at ho
        exact ho.pre (h.hr j hj).1 hsame (h.hr j hj).2 (h.ne j hj)
      · exact (h.hr j hj).1.grown hgr (Or.inl (by rw [hbl, hb] at hsame; exact hsame))
    · exact (h.hr j hj).1.grown hgr (Or.inl (hne_h j hj hji))
  · refine ⟨h.up hF hbe, ho, hpre', fun b hb => Or.inr ⟨by have := hfr b hb; omega, fun m hm e => ?_⟩⟩
    have := hfr b hb
    have := ((h.gr m hm).blk b e).2
    omega
/-- The grown list's header is laid. -/
theorem Gst.lay (hF : Frm F D) (hDg : ∀ b, gsb ≤ b → D b) {g : Value} {l : List α} (h : Gst B F rows gs gsb hs R G E i (i + 1) w) (hi : i < hs.length) (hc : Gcur B gsb hs R G i g l w) (ho : Ow B w' gs (G.set i (hd g))) (hg : w.grownBy w' (Fw.blk gs)) (hE : E i = l) :
    Gst B F rows gs gsb hs R (G.set i (hd g)) E (i + 1) (i + 1) w' := by
  obtain ⟨e, he⟩ := hc.pre
  have hlne : l ≠ [] := by rw [he]; simp [h.ne i hi]
  obtain ⟨bg, hbg, -⟩ := hc.own.sl.blk_lt hlne
  have hG : ∀ j, Hj (G.set i (hd g)) j = if j = i then g else Hj G j := fun j => by
    unfold Hj
    rw [getD_setD G (by rw [h.gl]; exact hi)]
    by_cases hji : j = i
    · rw [if_pos hji, if_pos hji]; exact hc.own.sl.hd.1
    · rw [if_neg hji, if_neg hji]
  rw [h.gb] at hg
  have hcb := hc.bl bg hbg
  have hgg : Fw.blk g ≠ some gsb := fun e => by
    rw [hbg] at e
    cases e
    rcases hcb with h1 | ⟨h1, -⟩
    · have := (h.hb i _ hi h1).1; omega
    · omega
  have hgH : ∀ j, j < hs.length → Fw.blk (Hj hs j) ≠ some gsb := fun j hj e => by have := (h.hb j _ hj e).1; omega
  have hgG : ∀ j, j < i → Fw.blk (Hj G j) ≠ some gsb := fun j hj e => by
    rcases h.gk j _ hj e with h1 | ⟨h1, -⟩
    · exact hgH j (by omega) h1
    · omega
  refine ⟨h.rl.grown hg (Or.inl fun e => by have := h.rb _ e; omega), ho, h.gb, by simp [h.gl], h.ne, fun j hj => ⟨(h.hr j hj).1.grown hg (Or.inl (hgH j hj)), (h.hr j hj).2⟩, fun j h1 h2 => (h.ho j h1 h2).grown hg (hgH j h2), fun j hj => ?_, h.hb, h.h2, h.rb, fun j b hj hb => ?_,
    hF.gr _ _ gsb h.fr (hDg gsb (Nat.le_refl _)) hg, Nat.le_trans h.sz hg.size⟩
  · rw [hG]
    by_cases hji : j = i
    · rw [if_pos hji, hji, hE]; exact hc.own.grown hg hgg
    · rw [if_neg hji]; exact (h.gr j (by omega)).grown hg (hgG j (by omega))
  · rw [hG] at hb
    by_cases hji : j = i
    · rw [if_pos hji] at hb
      rcases hc.bl b hb with h1 | ⟨h1, h3⟩
      · left; rw [hji]; exact h1
      · right
        refine ⟨h1, fun m hm hmj => ?_⟩
        rw [hG, if_neg (by omega)]
        exact h3 m (by omega)
    · rw [if_neg hji] at hb
      rcases h.gk j b (by omega) hb with h1 | ⟨h1, h3⟩
      · exact Or.inl h1
      · right
        refine ⟨h1, fun m hm hmj => ?_⟩
        rw [hG]
        by_cases hmi : m = i
        · rw [if_pos hmi]
          intro e
          rcases hc.bl b e with h4 | ⟨-, h4⟩
          · have := (h.hb i b hi h4).1; omega
          · exact h4 j (by omega) hb
        · rw [if_neg hmi]; exact h3 m (by omega) hmj
end
end Go.Fw
