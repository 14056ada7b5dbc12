import Derived.Test.YtbaljbadlfopgaaFwRW
import Derived.SizedLaws
import Derived.ChangeOld
import Derived.ChangeSlices
import Derived.ChangeArms
import Derived.Deep.Slices
import Derived.DataReads
set_option linter.all false
/- Reading arguments: what the form's reader tells of an argument's cells, brought into the framework's words. -/
set_option linter.unusedVariables false
namespace Go.Fw
open Go Go.RowKit Go.ChangeShapes Go.WideShapes Go.Deep

/-- Whatever is read as data of type t, and is no greater than the reach, has cells that are R. -/
def Opn (P : Program) (t : TypeId) (R : World → List Value → Prop) : Prop :=
  ∀ (H : Type) (enc : TypeId × Value → H) (w : World) (fuel : Nat) (cs : List Value) (x : DataW H × List MemPlace),
    DataW.trod enc P w 0 (fun _ => true) true fuel t cs = some x → (∀ n ∈ x.1.weights P t, n ≤ reachBytes) → R w cs
/-- An integer's cell. -/
def RI (k : IntKind) (w : World) (cs : List Value) : Prop := ∃ n, cs = [.int k n] ∧ (Lit.int k n).wf = true
def RB (w : World) (cs : List Value) : Prop := ∃ b, cs = [.bool b]
/-- One cell that holds an α. -/
def RC (α : Type) [Cell α] (Q : World → α → Prop) (w : World) (cs : List Value) : Prop := ∃ a : α, cs = [Cell.v a] ∧ Q w a
/-- A slice's cell; B bytes an element. -/
def RS (α : Type) [Cell α] (B : Nat) (Q : World → α → Prop) (w : World) (cs : List Value) : Prop := ∃ (s : Value) (l : List α), cs = [s] ∧ Sl w s l ∧ l.length * B ≤ 140737488351232 ∧ ∀ x ∈ l, Q w x
theorem Opn.int {P : Program} {t : TypeId} {k : IntKind} (ht : P.underlying t = some (.int k)) : Opn P t (RI k) := by
  intro H enc w fuel cs x h _
  obtain ⟨n, rfl, _, hw⟩ := DataW.trod_int ht h
  exact ⟨n, rfl, hw⟩
theorem Opn.bool {P : Program} {t : TypeId} (ht : P.underlying t = some .bool) : Opn P t RB := by
  intro H enc w fuel cs x h _
  obtain ⟨b, rfl, _⟩ := DataW.trod_bool ht h
  exact ⟨b, rfl⟩
theorem Opn.mono {P : Program} {t : TypeId} {R R' : World → List Value → Prop} (h : ∀ w cs, R w cs → R' w cs) (ho : Opn P t R) : Opn P t R' := fun H enc w fuel cs x hx hw => h w cs (ho H enc w fuel cs x hx hw)
theorem wf_u8 {n : Int} (h : (Lit.int .u8 n).wf = true) : 0 ≤ n ∧ n ≤ 255 := by
  simp only [Lit.wf, Bool.and_eq_true, decide_eq_true_eq] at h
  exact h
theorem wf_i64 {n : Int} (h : (Lit.int .i64 n).wf = true) : -9223372036854775808 ≤ n ∧ n ≤ 9223372036854775807 := by
  simp only [Lit.wf, Bool.and_eq_true, decide_eq_true_eq] at h
  exact h
theorem Opn.el8 {P : Program} {t : TypeId} (ht : P.underlying t = some (.int .u8)) : Opn P t (RC (El 8) fun _ _ => True) := (Opn.int ht).mono fun w cs ⟨n, h, hw⟩ => by
  obtain ⟨h0, h1⟩ := wf_u8 hw
  refine ⟨e8 n.toNat, ?_, trivial⟩
  rw [cell_e8, e8_v _ (by omega), h, Int.toNat_of_nonneg h0]
theorem list_of_each {α : Type} {p : Nat → α → Prop} : ∀ n, (∀ i, i < n → ∃ x, p i x) → ∃ l : List α, l.length = n ∧ ∀ i x, l[i]? = some x → p i x
  | 0, _ => ⟨[], rfl, fun i x h => by simp at h⟩
  | n + 1, h => by
    obtain ⟨l, hl, hp⟩ := list_of_each n (fun i hi => h i (by omega))
    obtain ⟨x, hx⟩ := h n (by omega)
    refine ⟨l ++ [x], by simp [hl], fun i y hy => ?_⟩
    rcases Nat.lt_or_ge i l.length with h1 | h1
    · rw [List.getElem?_append_left h1] at hy
      exact hp i y hy
    · have h2 : i = l.length := by
        have := (List.getElem?_eq_some_iff.1 hy).1
        rw [List.length_append, List.length_singleton] at this
        omega
      subst h2
      rw [List.getElem?_append_right (Nat.le_refl _)] at hy
      simp at hy
      subst hy
      rw [hl]
      exact hx
theorem weights_slice_mem {H : Type} {P : Program} {t e : TypeId} (ht : P.underlying t = some (.slice e)) {elems spare : List (DataW H)} {y : DataW H} (hy : y ∈ elems) {n : Nat} (hn : n ∈ y.weights P e) :
    n ∈ (DataW.slice elems spare).weights P t := by
  simp only [DataW.weights, ht]
  refine List.mem_cons_of_mem _ (List.mem_append_left _ ?_)
  clear ht
  induction elems with
  | nil => cases hy
  | cons z l ih =>
    simp only [DataW.weightsAll]
    rcases List.mem_cons.1 hy with rfl | h
    · exact List.mem_append_left _ hn
    · exact List.mem_append_right _ (ih h)
/-- A slice of elements of one cell. -/
theorem Opn.slice {α : Type} [Cell α] {P : Program} {t e : TypeId} {Q : World → α → Prop} {B : Nat} (ht : P.underlying t = some (.slice e)) (he : P.cellsOf e = 1) (hB : P.bytesOf e = B) (ho : Opn P e (RC α Q)) : Opn P t (RS α B Q) := by
  intro H enc w fuel cs x h hwt
  rcases open_slice ht h with ⟨rfl, rfl⟩ | ⟨a, len, cap, m, n, D, Pl, rfl, _, hl, hm, hmm, rfl, hx⟩
  · exact ⟨_, [], rfl, Sl.nil w, by simp, fun x hx => by cases hx⟩
  · simp only [if_true] at hmm
    subst hmm
    have hlen : len * B ≤ 140737488351232 := by
      have h1 := hwt (((List.range len).map D).length * P.bytesOf e + ((List.range (m - len)).map fun j => D (len + j)).length * P.bytesOf e) (by
        simp only [DataW.weights, ht, ← Nat.add_mul]
        exact List.mem_cons_self)
      simp only [List.length_map, List.length_range, hB, reachBytes] at h1
      omega
    obtain ⟨l, hll, hp⟩ := list_of_each (p := fun i (a' : α) => w.cell? (a.add i) = some (Cell.v a') ∧ Q w a') len (fun i hi => by
      obtain ⟨cs', h1, h2⟩ := hx i (by omega)
      obtain ⟨a', h3, h4⟩ := ho H enc w n cs' (D i, Pl i) h2 (fun q hq => hwt q (weights_slice_mem ht (List.mem_map.2 ⟨i, List.mem_range.2 hi, rfl⟩) hq))
      refine ⟨a', ?_, h4⟩
      obtain ⟨_, hlc, hc⟩ := World.cells?_some h1
      have := hc 0 (by omega)
      rw [he, Nat.mul_one] at this
      subst h3
      have e : (a.add i).add 0 = a.add i := by rw [add_add', Nat.add_zero]
      simpa [e] using this)
    refine ⟨_, l, rfl, ⟨⟨some a, m, by rw [hll], by omega, fun _ => ⟨a, rfl⟩⟩, fun i x hi => (hp i x hi).1⟩, by rw [hll]; exact hlen, fun x hx => ?_⟩
    obtain ⟨j, hj⟩ := List.mem_iff_getElem?.1 hx
    exact (hp j x hj).2
/-- The fields of a struct, in order, from the cell off on. -/
def OpF (P : Program) (fs : List Field) (off : Nat) (R : World → List Value → Prop) : Prop :=
  ∀ (H : Type) (enc : TypeId × Value → H) (w : World) (n : Nat) (cs : List Value) (xs : List (DataW H × List MemPlace)), xs.length = fs.length →
    (∀ (i : Nat) (f : Field), fs[i]? = some f → DataW.trod enc P w 0 (fun _ => true) true n f.type ((cs.drop f.offset).take (P.cellsOf f.type)) = xs[i]?) →
    (∀ (i : Nat) (f : Field) (x : DataW H × List MemPlace), fs[i]? = some f → xs[i]? = some x → ∀ m ∈ x.1.weights P f.type, m ≤ reachBytes) → R w (cs.drop off)
def RZ (_ : World) (_ : List Value) : Prop := True
/-- One field, then the others. -/
def RF (m : Nat) (R R' : World → List Value → Prop) (w : World) (cs : List Value) : Prop := R w (cs.take m) ∧ R' w (cs.drop m)
theorem OpF.nil {P : Program} {off : Nat} : OpF P [] off RZ := fun _ _ _ _ _ _ _ _ _ => trivial
theorem OpF.cons {P : Program} {R R' : World → List Value → Prop} {f : Field} {fs : List Field} {off m : Nat} (ho : f.offset = off) (hc : P.cellsOf f.type = m) (h : Opn P f.type R) (hs : OpF P fs (off + m) R') : OpF P (f :: fs) off (RF m R R') := by
  intro H enc w n cs xs hx hr hw
  obtain ⟨x, l, rfl⟩ : ∃ x l, xs = x :: l := by
    cases xs with
    | nil => simp at hx
    | cons x l => exact ⟨x, l, rfl⟩
  have h0 := hr 0 f rfl
  rw [ho, hc] at h0
  refine ⟨h H enc w n _ x h0 (hw 0 f x rfl rfl), ?_⟩
  rw [List.drop_drop]
  exact hs H enc w n cs l (by simpa using hx) (fun i g hg => by simpa using hr (i + 1) g (by simpa using hg)) (fun i g y hg hy => hw (i + 1) g y (by simpa using hg) (by simpa using hy))
theorem weights_struct_mem {H : Type} {P : Program} {t : TypeId} {fs : Array Field} (ht : P.underlying t = some (.struct fs)) {parts : List (DataW H)} {i : Nat} {f : Field} {y : DataW H} (hf : fs.toList[i]? = some f) (hy : parts[i]? = some y) {n : Nat} (hn : n ∈ y.weights P f.type) :
    n ∈ (DataW.agg parts).weights P t := by
  simp only [DataW.weights, ht]
  exact DataW.weights_mem_each (j := i) (t := f.type) (by rw [List.getElem?_map, hf]; rfl) hy n hn
theorem Opn.struct {P : Program} {t : TypeId} {fs : Array Field} {R : World → List Value → Prop} {m : Nat} (ht : P.underlying t = some (.struct fs)) (hc : P.cellsOf t = m) (h : OpF P fs.toList 0 R) : Opn P t fun w cs => cs.length = m ∧ R w cs := by
  intro H enc w fuel cs x hx hwt
  obtain ⟨xs, n, rfl, rfl, hl, hlen, hf⟩ := DataW.trod_struct ht hx
  exact ⟨by omega, h H enc w n cs xs (by simpa using hlen) (fun i f hi => hf i f (by simpa using hi)) (fun i f y hi hy m hm => hwt m (weights_struct_mem ht hi (by rw [List.getElem?_map, hy]; rfl) hm))⟩
/-- The arguments' weights, one argument at a time. -/
theorem weights_at {H : Type} {P : Program} {ts : List TypeId} {ds : List (DataW H)} (h : (DataW.weightsEach P ts ds).all (· ≤ reachBytes) = true) {j : Nat} {t : TypeId} {d : DataW H} (ht : ts[j]? = some t) (hd : ds[j]? = some d) : ∀ n ∈ d.weights P t, n ≤ reachBytes := by
  intro n hn
  have := List.all_eq_true.1 h n (DataW.weights_mem_each ht hd n hn)
  simpa using this
/-- An argument, opened. -/
theorem Opn.arg {H : Type} {enc : TypeId × Value → H} {P : Program} {t : TypeId} {R : World → List Value → Prop} (ho : Opn P t R) {W : World} {v : Value} {x : DataW H} {ps : List MemPlace}
    (h : DataW.Trod enc P W 0 (fun _ => true) true t v x ps) (hw : ∀ n ∈ x.weights P t, n ≤ reachBytes) : R W v.cells.toList := by
  obtain ⟨fuel, hf⟩ := h
  exact ho H enc W fuel _ _ hf hw
theorem RI.one {k : IntKind} {w : World} {c : List Value} (h : RI k w c) : c.length = 1 := by obtain ⟨n, rfl, _⟩ := h; rfl
theorem RB.one {w : World} {c : List Value} (h : RB w c) : c.length = 1 := by obtain ⟨n, rfl⟩ := h; rfl
theorem RC.one {α : Type} [Cell α] {Q : World → α → Prop} {w : World} {c : List Value} (h : RC α Q w c) : c.length = 1 := by obtain ⟨n, rfl, _⟩ := h; rfl
theorem RS.one {α : Type} [Cell α] {B : Nat} {Q : World → α → Prop} {w : World} {c : List Value} (h : RS α B Q w c) : c.length = 1 := by obtain ⟨s, l, rfl, _⟩ := h; rfl
theorem RF.split {R R' : World → List Value → Prop} {w : World} {cs : List Value} (h : RF 1 R R' w cs) (h1 : (R w (cs.take 1)) → (cs.take 1).length = 1) : ∃ u cs', cs = u :: cs' ∧ R w [u] ∧ R' w cs' := by
  obtain ⟨a, b⟩ := h
  have hl := h1 a
  cases cs with
  | nil => simp at hl
  | cons u l => exact ⟨u, l, rfl, a, b⟩
theorem Opn.ci {P : Program} {t : TypeId} (ht : P.underlying t = some (.int .i64)) : Opn P t (RC Int fun _ n => -9223372036854775808 ≤ n ∧ n ≤ 9223372036854775807) := (Opn.int ht).mono fun w cs ⟨n, h, hw⟩ => ⟨n, h, wf_i64 hw⟩
/-- A slice as an element. -/
theorem Opn.hd {α : Type} [Cell α] {P : Program} {t : TypeId} {B : Nat} {Q : World → α → Prop} (ho : Opn P t (RS α B Q)) : Opn P t (RC Hd fun w h => ∃ l : List α, Sl w (Cell.v h) l ∧ l.length * B ≤ 140737488351232 ∧ ∀ x ∈ l, Q w x) :=
  ho.mono fun w cs ⟨s, l, h, hs, hl, hq⟩ => ⟨Fw.hd s, by rw [hs.hd.1]; exact h, l, by rw [hs.hd.1]; exact hs, hl, hq⟩
theorem arr_of {cs : Array Value} {l : List Value} (h : cs.toList = l) : cs = l.toArray := by rw [← h]
end Go.Fw
