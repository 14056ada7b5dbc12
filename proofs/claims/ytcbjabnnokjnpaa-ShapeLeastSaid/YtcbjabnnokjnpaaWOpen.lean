/- Reading arguments: what the form's reader tells of an argument's cells, brought into the words' kinds, kind by kind. -/
import Derived.SizedLaws
import Derived.ChangeOld
import Derived.ChangeSlices
import Derived.ChangeArms
import Derived.Deep.Slices
import Derived.DataReads
import Derived.Test.YtcbjabnnokjnpaaWWords
set_option linter.unusedVariables false
namespace Go.Proofs.YtcbjabnnokjnpaaW.Open
open Go.RowKit Go.ChangeShapes Go.WideShapes Go.Deep Go.Proofs.YtcbjabnnokjnpaaW.PrintWords

/-- Whatever is read as data of type t, and is no greater than the reach, is a value of the kind d that is in order. -/
def Opens {α : Type} (P : Program) (d : Kd α) (t : TypeId) (Wf : α → Prop) : Prop :=
  ∀ {H : Type} (enc : TypeId × Value → H) (w : World) (fuel : Nat) (cs : List Value) (x : DataW H × List MemPlace),
    DataW.trod enc P w 0 (fun _ => true) true fuel t cs = some x → (∀ n ∈ x.1.weights P t, n ≤ reachBytes) → ∃ a, d.K w a cs ∧ Wf a

theorem Opens.int {P : Program} {t : TypeId} {k : IntKind} (ht : P.underlying t = some (.int k)) : Opens P (Kd.int k) t (fun n => (Lit.int k n).wf = true) := by
  intro H enc w fuel cs x h _
  obtain ⟨n, rfl, _, hw⟩ := DataW.trod_int ht h
  exact ⟨n, rfl, hw⟩
theorem Opens.bool {P : Program} {t : TypeId} (ht : P.underlying t = some .bool) : Opens P Kd.bool t (fun _ => True) := by
  intro H enc w fuel cs x h _
  obtain ⟨b, rfl, _⟩ := DataW.trod_bool ht h
  exact ⟨b, rfl, trivial⟩

theorem list_of_each {α : Type} {p : Nat → α → Prop} : ∀ n, (∀ i, i < n → ∃ x, p i x) → ∃ l : List α, l.length = n ∧ ∀ i x, l[i]? = some x → p i x
  | 0, _ => ⟨[], rfl, fun i x h => by simp at h⟩
  | n + 1, h => by
    obtain ⟨l, hl, hp⟩ := list_of_each n (fun i hi => h i (by omega))
    obtain ⟨x, hx⟩ := h n (by omega)
    refine ⟨l ++ [x], by simp [hl], fun i y hy => ?_⟩
    rcases Nat.lt_or_ge i l.length with h1 | h1
    · rw [List.getElem?_append_left h1] at hy
      exact hp i y hy
    · have h2 : i = l.length := by
        have := (List.getElem?_eq_some_iff.1 hy).1
        rw [List.length_append, List.length_singleton] at this
        omega
      subst h2
      rw [List.getElem?_append_right (Nat.le_refl _)] at hy
      simp at hy
      subst hy
      rw [hl]
      exact hx

theorem weights_slice_mem {H : Type} {P : Program} {t e : TypeId} (ht : P.underlying t = some (.slice e)) {elems spare : List (DataW H)} {y : DataW H} (hy : y ∈ elems) {n : Nat} (hn : n ∈ y.weights P e) :
    n ∈ (DataW.slice elems spare).weights P t := by
  simp only [DataW.weights, ht]
  refine List.mem_cons_of_mem _ (List.mem_append_left _ ?_)
  clear ht
  induction elems with
  | nil => cases hy
  | cons z l ih =>
    simp only [DataW.weightsAll]
    rcases List.mem_cons.1 hy with rfl | h
    · exact List.mem_append_left _ hn
    · exact List.mem_append_right _ (ih h)

theorem Opens.slice {α : Type} {P : Program} {t e : TypeId} {d : Kd α} {Wf : α → Prop} {B : Nat} (ht : P.underlying t = some (.slice e)) (he : P.cellsOf e = d.sz) (hB : P.bytesOf e = B) (ho : Opens P d e Wf) :
    Opens P (Kd.slice e d) t (fun xs => xs.length * B ≤ 140737488351232 ∧ ∀ x ∈ xs, Wf x) := by
  intro H enc w fuel cs x h hwt
  rcases open_slice ht h with ⟨rfl, rfl⟩ | ⟨a, len, cap, m, n, D, Pl, rfl, _, hl, hm, hmm, rfl, hx⟩
  · refine ⟨[], ⟨none, 0, rfl, Nat.le_refl _, ⟨rfl, by simp, fun h => by simp at h⟩⟩, by simp, fun x hx => by cases hx⟩
  · simp only [if_true] at hmm
    subst hmm
    have hlen : len * B ≤ 140737488351232 := by
      have h1 := hwt (((List.range len).map D).length * P.bytesOf e + ((List.range (m - len)).map fun j => D (len + j)).length * P.bytesOf e) (by
        simp only [DataW.weights, ht, ← Nat.add_mul]
        exact List.mem_cons_self)
      simp only [List.length_map, List.length_range, hB, reachBytes] at h1
      omega
    obtain ⟨l, hll, hp⟩ := list_of_each (p := fun i a' => (∃ c, c.length = d.sz ∧ d.K w a' c ∧ ∀ j u, c[j]? = some u → w.cell? (a.add (i * d.sz + j)) = some u) ∧ Wf a') len (fun i hi => by
      obtain ⟨cs', h1, h2⟩ := hx i (by omega)
      obtain ⟨a', hK, hW⟩ := ho enc w n cs' (D i, Pl i) h2 (fun q hq => hwt q (weights_slice_mem ht (List.mem_map.2 ⟨i, List.mem_range.2 hi, rfl⟩) hq))
      refine ⟨a', ⟨cs', d.K_len hK, hK, fun j u hu => ?_⟩, hW⟩
      obtain ⟨_, hlc, hc⟩ := World.cells?_some h1
      have hj : j < P.cellsOf e := by
        have := (List.getElem?_eq_some_iff.1 hu).1
        omega
      rw [← he, ← Go.Deep.add_add]
      rw [hc j hj]
      exact hu)
    refine ⟨l, ⟨some a, m, by rw [hll], by omega, ⟨rfl, by rw [hll]; simp only [maxLen] at hm; omega, fun _ => ⟨a, rfl, fun j p hj => (hp j p hj).1⟩⟩⟩, by rw [hll]; exact hlen, fun x hx => ?_⟩
    obtain ⟨j, hj⟩ := List.mem_iff_getElem?.1 hx
    exact (hp j x hj).2

theorem Opens.iso {α β : Type} {P : Program} {t : TypeId} {d : Kd α} {Wf : α → Prop} (f : β → α) (g : α → β) (h : ∀ x, f (g x) = x) (ho : Opens P d t Wf) : Opens P (Kd.iso d f) t (fun y => Wf (f y)) := by
  intro H enc w fuel cs x hx hwt
  obtain ⟨a, hK, hW⟩ := ho enc w fuel cs x hx hwt
  exact ⟨g a, by show d.K w (f (g a)) cs; rw [h]; exact hK, by show Wf (f (g a)); rw [h]; exact hW⟩

/-- The fields `fs` of a struct, in order, from the cell `off` on. -/
def OpensF {α : Type} (P : Program) (d : Kd α) (fs : List Field) (off : Nat) (Wf : α → Prop) : Prop :=
  ∀ {H : Type} (enc : TypeId × Value → H) (w : World) (n : Nat) (cs : List Value) (xs : List (DataW H × List MemPlace)),
    cs.length = off + d.sz → xs.length = fs.length →
    (∀ (i : Nat) (f : Field), fs[i]? = some f → DataW.trod enc P w 0 (fun _ => true) true n f.type ((cs.drop f.offset).take (P.cellsOf f.type)) = xs[i]?) →
    (∀ (i : Nat) (f : Field) (x : DataW H × List MemPlace), fs[i]? = some f → xs[i]? = some x → ∀ m ∈ x.1.weights P f.type, m ≤ reachBytes) →
    ∃ a, d.K w a (cs.drop off) ∧ Wf a

theorem OpensF.one {α : Type} {P : Program} {d : Kd α} {f : Field} {off : Nat} {Wf : α → Prop} (ho : f.offset = off) (hc : P.cellsOf f.type = d.sz) (h : Opens P d f.type Wf) : OpensF P d [f] off Wf := by
  intro H enc w n cs xs hl hx hr hw
  obtain ⟨x, rfl⟩ : ∃ x, xs = [x] := by
    cases xs with
    | nil => simp at hx
    | cons x l => cases l with
      | nil => exact ⟨x, rfl⟩
      | cons y l => simp at hx
  have h0 := hr 0 f rfl
  rw [ho, hc, List.take_of_length_le (by rw [List.length_drop]; omega)] at h0
  exact h enc w n _ x h0 (hw 0 f x rfl rfl)
theorem OpensF.cons {α β : Type} {P : Program} {d : Kd α} {e : Kd β} {f : Field} {fs : List Field} {off : Nat} {Wf : α → Prop} {Wg : β → Prop} (ho : f.offset = off) (hc : P.cellsOf f.type = d.sz) (h : Opens P d f.type Wf)
    (hs : OpensF P e fs (off + d.sz) Wg) : OpensF P (Kd.pair d e) (f :: fs) off (fun x => Wf x.1 ∧ Wg x.2) := by
  intro H enc w n cs xs hl hx hr hw
  have hsz : (Kd.pair d e).sz = d.sz + e.sz := rfl
  obtain ⟨x, l, rfl⟩ : ∃ x l, xs = x :: l := by
    cases xs with
    | nil => simp at hx
    | cons x l => exact ⟨x, l, rfl⟩
  have h0 := hr 0 f rfl
  rw [ho, hc] at h0
  obtain ⟨a, hK, hW⟩ := h enc w n _ x h0 (hw 0 f x rfl rfl)
  obtain ⟨b, hK', hW'⟩ := hs enc w n cs l (by omega) (by simpa using hx) (fun i g hg => by simpa using hr (i + 1) g (by simpa using hg)) (fun i g y hg hy => hw (i + 1) g y (by simpa using hg) (by simpa using hy))
  refine ⟨(a, b), ⟨_, _, ?_, hK, hK'⟩, hW, hW'⟩
  rw [← List.drop_drop, List.take_append_drop]
theorem weights_struct_mem {H : Type} {P : Program} {t : TypeId} {fs : Array Field} (ht : P.underlying t = some (.struct fs)) {parts : List (DataW H)} {i : Nat} {f : Field} {y : DataW H} (hf : fs.toList[i]? = some f) (hy : parts[i]? = some y) {n : Nat} (hn : n ∈ y.weights P f.type) :
    n ∈ (DataW.agg parts).weights P t := by
  simp only [DataW.weights, ht]
  exact DataW.weights_mem_each (j := i) (t := f.type) (by rw [List.getElem?_map, hf]; rfl) hy n hn
theorem Opens.struct {α : Type} {P : Program} {t : TypeId} {d : Kd α} {fs : Array Field} {Wf : α → Prop} (ht : P.underlying t = some (.struct fs)) (hc : P.cellsOf t = d.sz) (h : OpensF P d fs.toList 0 Wf) : Opens P d t Wf := by
  intro H enc w fuel cs x hx hwt
  obtain ⟨xs, n, rfl, rfl, hl, hlen, hf⟩ := DataW.trod_struct ht hx
  obtain ⟨a, hK, hW⟩ := h enc w n cs xs (by omega) (by simpa using hlen) (fun i f hi => hf i f (by simpa using hi)) (fun i f y hi hy m hm => hwt m (weights_struct_mem ht hi (by rw [List.getElem?_map, hy]; rfl) hm))
  exact ⟨a, by simpa using hK, hW⟩

/-- The arguments' weights, one argument at a time. -/
theorem weights_at {H : Type} {P : Program} {ts : List TypeId} {ds : List (DataW H)} (h : (DataW.weightsEach P ts ds).all (· ≤ reachBytes) = true) {j : Nat} {t : TypeId} {d : DataW H} (ht : ts[j]? = some t) (hd : ds[j]? = some d) : ∀ n ∈ d.weights P t, n ≤ reachBytes := by
  intro n hn
  have := List.all_eq_true.1 h n (DataW.weights_mem_each ht hd n hn)
  simpa using this
/-- An argument, opened: the value's cells in the kind, and its places below the heap's size. -/
theorem Opens.arg {α : Type} {H : Type} {enc : TypeId × Value → H} {P : Program} {d : Kd α} {t : TypeId} {Wf : α → Prop} (ho : Opens P d t Wf) {W : World} {v : Value} {x : DataW H} {ps : List MemPlace}
    (h : DataW.Trod enc P W 0 (fun _ => true) true t v x ps) (hw : ∀ n ∈ x.weights P t, n ≤ reachBytes) : (∃ a, d.K W a v.cells.toList ∧ Wf a) ∧ ∀ y ∈ ps, y.block < W.heap.size := by
  obtain ⟨fuel, hf⟩ := h
  exact ⟨ho enc W fuel _ _ hf hw, DataW.trod_lt fuel _ _ _ hf⟩

end Go.Proofs.YtcbjabnnokjnpaaW.Open
