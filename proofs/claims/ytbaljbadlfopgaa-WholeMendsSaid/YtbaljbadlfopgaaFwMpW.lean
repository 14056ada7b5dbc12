import Derived.Test.YtbaljbadlfopgaaFwXW
set_option linter.all false
/- Maps whose keys are integers of one kind: made, looked up, written. -/
set_option linter.unusedVariables false
set_option linter.unusedSimpArgs false
namespace Go.Fw
open Go Go.RowKit
def mgl (e : IntKind) (n : Int) : List MapEntry → Value
  | [] => .int e 0
  | x :: l => if toI x.key = n then x.val else mgl e n l
theorem isk {k : IntKind} {v : Value} (h : MapKept.IsKey (.int k) v) : ∃ m, v = .int k m := by
  cases v <;> first | exact h.elim | skip
  case int k' m =>
    have : k' = k := h
    subst this; exact ⟨m, rfl⟩
theorem findNow_cons (k : IntKind) (n m : Int) (x : MapEntry) (l : List MapEntry) (i : Nat) (hx : x.key = .int k m) : Instr.findNow (.int k) (.int k n) (x :: l) i = if n = m then some (some (i, x.val)) else Instr.findNow (.int k) (.int k n) l (i + 1) := by
  rw [Instr.findNow, hx]
  simp only [Instr.sameNow, if_pos]
  by_cases h : n = m
  · rw [if_pos h]; subst h; simp
  · rw [if_neg h, show (n == m) = false from beq_false_of_ne h]
theorem mget_go (k e : IntKind) (n : Int) : ∀ (l : List MapEntry) (i : Nat), (∀ x ∈ l, MapKept.IsKey (.int k) x.key) → (match Instr.findNow (.int k) (.int k n) l i with | some (some (_, v)) => v | _ => .int e 0) = mgl e n l
  | [], _, _ => rfl
  | x :: l, i, h => by
    obtain ⟨m, hm⟩ := isk (h x (.head _))
    have ih := mget_go k e n l (i + 1) fun y hy => h y (.tail _ hy)
    rw [findNow_cons k n m x l i hm]
    show _ = if toI x.key = n then x.val else mgl e n l
    rw [hm, toI_int]
    by_cases h1 : n = m
    · rw [if_pos h1, if_pos h1.symm]
    · rw [if_neg h1, if_neg (Ne.symm h1)]; exact ih
theorem mget_eq {k e : IntKind} {n : Int} {l : List MapEntry} (h : ∀ x ∈ l, MapKept.IsKey (.int k) x.key) : mget k e n l = mgl e n l := mget_go k e n l 0 h
theorem mset_go (k e : IntKind) (n : Int) (v : Value) : ∀ (l : List MapEntry) (i : Nat), (∀ x ∈ l, MapKept.IsKey (.int k) x.key) →
    (Instr.findNow (.int k) (.int k n) l i = some none ∧ ∀ y : MapEntry, y.key = .int k n → y.val = v → ∀ m, mgl e m (l ++ [y]) = if m = n then v else mgl e m l) ∨
    ∃ q u, Instr.findNow (.int k) (.int k n) l i = some (some (i + q, u)) ∧ ∀ m, mgl e m (l.modify q fun z => { z with key := .int k n, val := v }) = if m = n then v else mgl e m l
  | [], i, _ => Or.inl ⟨rfl, fun y hy hv m => by
      show (if toI y.key = m then y.val else .int e 0) = _
      rw [hy, toI_int, hv]
      by_cases h1 : n = m
      · rw [if_pos h1, if_pos h1.symm]
      · rw [if_neg h1, if_neg (Ne.symm h1)]; rfl⟩
  | x :: l, i, h => by
    obtain ⟨p, hp⟩ := isk (h x (.head _))
    rw [findNow_cons k n p x l i hp]
    by_cases h1 : n = p
    · subst h1
      refine Or.inr ⟨0, x.val, by rw [if_pos rfl, Nat.add_zero], fun m => ?_⟩
      show (if n = m then v else mgl e m l) = if m = n then v else if toI x.key = m then x.val else mgl e m l
      rw [hp, toI_int]
      by_cases h2 : n = m
      · rw [if_pos h2, if_pos h2.symm]
      · rw [if_neg h2, if_neg (Ne.symm h2), if_neg h2]
    · rw [if_neg h1]
      have hc : ∀ (l' : List MapEntry) (m : Int), (mgl e m l' = if m = n then v else mgl e m l) → (if toI x.key = m then x.val else mgl e m l') = if m = n then v else if toI x.key = m then x.val else mgl e m l := fun l' m hl => by
        rw [hp, toI_int, hl]
        by_cases h2 : p = m
        · rw [if_pos h2, if_pos h2, if_neg (fun e => h1 (e.symm.trans h2.symm))]
        · rw [if_neg h2, if_neg h2]
      rcases mset_go k e n v l (i + 1) fun y hy => h y (.tail _ hy) with ⟨h2, h3⟩ | ⟨q, u, h2, h3⟩
      · exact Or.inl ⟨h2, fun y hy hv m => hc _ m (h3 y hy hv m)⟩
      · exact Or.inr ⟨q + 1, u, by rw [h2, show i + 1 + q = i + (q + 1) by omega], fun m => hc _ m (h3 m)⟩
/-- The map at v reads as f: f n for the key n, the zero where it has none. -/
def Mi (k e : IntKind) (w : World) (v : Value) (f : Int → Value) : Prop := ∃ r ms clock, v = .map (some r) ∧ w.heap[r]? = some (.map ms clock) ∧ (∀ y ∈ ms.toList, MapKept.IsKey (.int k) y.key) ∧ ∀ n, mgl e n ms.toList = f n
theorem Mi.up {k e : IntKind} {w w' : World} {v : Value} {f : Int → Value} (h : Mi k e w v f) (hB : Below w.heap.size w w') : Mi k e w' v f := by
  obtain ⟨r, ms, c, rfl, hb, h1, h2⟩ := h
  exact ⟨r, ms, c, rfl, by rw [hB.block r (Array.getElem?_eq_some_iff.1 hb).1]; exact hb, h1, h2⟩
theorem Mi.grown {k e : IntKind} {w w' : World} {r : Nat} {f : Int → Value} {b : Option Nat} (h : Mi k e w (.map (some r)) f) (hg : w.grownBy w' b) (hn : b ≠ some r) : Mi k e w' (.map (some r)) f := by
  obtain ⟨r', ms, c, e1, hb, h1, h2⟩ := h
  cases e1
  exact ⟨r, ms, c, rfl, by rw [hg.block r (Array.getElem?_eq_some_iff.1 hb).1 (fun e => hn e.symm)]; exact hb, h1, h2⟩
section
variable {P : Program} {d : Option Nat} {l : List D} {Q : T → World → Prop} {t : T} {w : World} {k e : IntKind}
theorem X_mkm (k e : IntKind) (hk : ∀ r w', Mi k e w' (.map (some r)) (fun _ => .int e 0) → w.heap.size ≤ r → Below w.heap.size w w' → W P Q l (put t d (.map (some r))) w') : XW P .mkm d l Q t w := by
  refine hk w.heap.size _ ⟨_, #[], 0, rfl, heap_alloc_new w _, fun y hy => absurd hy (by simp), fun n => rfl⟩ (Nat.le_refl _) (alloc_below w _)
theorem Mi.Xlk {v : Value} {f : Int → Value} (h : Mi k e w v f) (n : Int) (P : Program) (d : Option Nat) (l : List D) (Q : T → World → Prop) (t : T) : XW P (.mlk k e (.c v) (.c (.int k n))) d l Q t w = W P Q l (put t d (f n)) w := by
  obtain ⟨r, ms, c, rfl, hb, h1, h2⟩ := h
  refine propext ⟨fun h => ?_, fun h => ?_⟩
  · obtain ⟨-, ms', c', hb', h3, h4⟩ := h
    rw [hb] at hb'
    cases hb'
    rw [mget_eq h3, h2] at h4
    exact h4
  · exact ⟨rfl, ms, c, hb, h1, by rw [mget_eq h1, h2]; exact h⟩
theorem Mi.Xup {r : Nat} {f : Int → Value} (h : Mi k e w (.map (some r)) f) (n : Int) (u : Value) (hk : ∀ w', Mi k e w' (.map (some r)) (fun m => if m = n then u else f m) → w.grownBy w' (some r) → W P Q l (put t d undef) w') : XW P (.mup k (.c (.map (some r))) (.c (.int k n)) (.c u)) d l Q t w := by
  obtain ⟨r', ms, c, e1, hb, h1, h2⟩ := h
  cases e1
  have hlt : r < w.heap.size := (Array.getElem?_eq_some_iff.1 hb).1
  have key : ∀ o : Obj, w.grownBy { w with heap := w.heap.setIfInBounds r o } (some r) := fun o => ⟨rfl, rfl, rfl, by simp, fun j _ hj => by
    have : j ≠ r := fun e => hj (by rw [e])
    simp [Ne.symm this]⟩
  have get : ∀ o : Obj, ({ w with heap := w.heap.setIfInBounds r o } : World).heap[r]? = some o := fun o => (MapKept.heap_set hb).1
  refine ⟨rfl, ms, c, hb, h1, hk _ ?_ (key _)⟩
  unfold mset
  rcases mset_go k e n u ms.toList 0 h1 with ⟨h3, h4⟩ | ⟨q, u', h3, h4⟩
  · rw [h3]
    refine ⟨r, _, _, rfl, get _, fun y hy => ?_, fun m => ?_⟩
    · simp only [Array.toList_push, List.mem_append, List.mem_singleton] at hy
      rcases hy with hy | rfl
      · exact h1 y hy
      · exact rfl
    · rw [Array.toList_push, h4 _ rfl rfl m, h2]
  · rw [h3]
    simp only [Nat.zero_add]
    refine ⟨r, _, _, rfl, get _, fun y hy => ?_, fun m => ?_⟩
    · rw [Array.toList_modify] at hy
      obtain ⟨j, hj⟩ := List.mem_iff_getElem?.1 hy
      rw [List.getElem?_modify] at hj
      obtain ⟨z, hz, hzy⟩ := Option.map_eq_some_iff.1 (show Option.map _ ms.toList[j]? = some y from hj)
      by_cases hq : q = j
      · simp only [if_pos hq] at hzy
        rw [← hzy]; exact rfl
      · simp only [if_neg hq] at hzy
        rw [← hzy]; exact h1 z (List.mem_iff_getElem?.2 ⟨j, hz⟩)
    · rw [Array.toList_modify]
      exact (h4 m).trans (by rw [h2])
end
end Go.Fw
