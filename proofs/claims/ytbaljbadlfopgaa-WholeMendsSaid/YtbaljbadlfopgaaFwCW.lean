import Derived.Test.YtbaljbadlfopgaaFwBW
set_option linter.all false
set_option linter.unusedVariables false
set_option linter.unusedSimpArgs false
namespace Go.Fw
open Go
section
variable {P : Program} {w : World}

theorem asI_e {x : Value} {F : IntKind → Int → Prop} (h : asI x F) : ∃ k n, x = .int k n ∧ F k n := by
  cases x <;> first | exact ⟨_, _, rfl, h⟩ | exact h.elim
theorem asB_e {x : Value} {F : Bool → Prop} (h : asB x F) : ∃ b, x = .bool b ∧ F b := by
  cases x <;> first | exact ⟨_, rfl, h⟩ | exact h.elim
theorem asP_e {x : Value} {F : Addr → Prop} (h : asP x F) : ∃ a, x = .pointer (some a) ∧ F a := by
  cases x with
  | pointer a => cases a with
    | none => exact h.elim
    | some a => exact ⟨a, rfl, h⟩
  | _ => exact h.elim
theorem asS_e {x : Value} {F : Option Addr → Nat → Nat → Prop} (h : asS x F) : ∃ a n c, x = .slice a n c ∧ F a n c := by
  cases x <;> first | exact ⟨_, _, _, rfl, h⟩ | exact h.elim
theorem asA_e {x : Value} {F : List Value → Prop} (h : asA x F) : ∃ cs : Array Value, x = .agg cs ∧ F cs.toList := by
  cases x <;> first | exact ⟨_, rfl, h⟩ | exact h.elim
theorem asT_e {x : Value} {F : List Value → Prop} (h : asT x F) : ∃ cs : Array Value, x = .tuple cs ∧ F cs.toList := by
  cases x <;> first | exact ⟨_, rfl, h⟩ | exact h.elim
theorem ints_e {x y : Value} {F : IntKind → Int → IntKind → Int → Prop} (h : ints x y F) : ∃ k a k' b, x = .int k a ∧ y = .int k' b ∧ F k a k' b := by
  cases x <;> first | exact h.elim | (cases y <;> first | exact ⟨_, _, _, _, rfl, rfl, h⟩ | exact h.elim)
theorem bools_e {x y : Value} {F : Bool → Bool → Prop} (h : bools x y F) : ∃ a b, x = .bool a ∧ y = .bool b ∧ F a b := by
  cases x <;> first | exact h.elim | (cases y <;> first | exact ⟨_, _, rfl, rfl, h⟩ | exact h.elim)
theorem ptrs_e {x y : Value} {F : Option Addr → Option Addr → Prop} (h : ptrs x y F) : ∃ a b, x = .pointer a ∧ y = .pointer b ∧ F a b := by
  cases x <;> first | exact h.elim | (cases y <;> first | exact ⟨_, _, rfl, rfl, h⟩ | exact h.elim)
theorem getK_e {l : List Value} {i : Nat} {K : Value → Prop} (h : getK l i K) : ∃ v, l[i]? = some v ∧ K v := by
  unfold getK at h
  cases hv : l[i]? with
  | none => rw [hv] at h; exact h.elim
  | some v => rw [hv] at h; exact ⟨v, rfl, h⟩
theorem bnd_e {x : Value} {y : Nat} {F : Nat → Prop} (h : bnd x y F) : ∃ k i, x = .int k i ∧ 0 ≤ i ∧ i ≤ (y : Int) ∧ F i.toNat := by
  obtain ⟨k, i, rfl, ⟨h0, h1⟩, hF⟩ := asI_e h
  exact ⟨k, i, rfl, h0, h1, hF⟩
theorem sbnd_run {b : Bool} {len cap : Nat} {lo hi mx : Option Value} {F : Nat → Nat → Nat → Prop} (h : sbnd len cap lo hi mx F) :
    ∃ l h' m, F l h' m ∧ (Instr.sliceBounds b len cap lo hi mx).run P w = .ok (l, h', m) w := by
  unfold sbnd at h
  cases mx with
  | none =>
    cases hi with
    | none =>
      cases lo with
      | none => exact ⟨_, _, _, h, by simp [Instr.sliceBounds]⟩
      | some l =>
        obtain ⟨k, i, rfl, h0, h1, hF⟩ := bnd_e h
        exact ⟨_, _, _, hF, by simp [Instr.sliceBounds, Instr.sliceBound, asIntOf, h0, h1]⟩
    | some hh =>
      obtain ⟨k, i, rfl, h0, h1, hF⟩ := bnd_e h
      cases lo with
      | none => exact ⟨_, _, _, hF, by simp [Instr.sliceBounds, Instr.sliceBound, asIntOf, h0, h1]⟩
      | some l =>
        obtain ⟨k', i', rfl, h2, h3, hF⟩ := bnd_e hF
        exact ⟨_, _, _, hF, by simp [Instr.sliceBounds, Instr.sliceBound, asIntOf, h0, h1, h2, h3]; omega⟩
  | some m =>
    cases hi with
    | none => exact h.elim
    | some hh =>
      obtain ⟨k, i, rfl, h0, h1, hF⟩ := bnd_e h
      obtain ⟨k', i', rfl, h2, h3, hF⟩ := bnd_e hF
      cases lo with
      | none => exact ⟨_, _, _, hF, by simp [Instr.sliceBounds, Instr.sliceBound, asIntOf, h0, h1, h2, h3]; omega⟩
      | some l =>
        obtain ⟨k'', i'', rfl, h4, h5, hF⟩ := bnd_e hF
        refine ⟨_, _, _, hF, ?_⟩
        have e1 : ∀ code, (Instr.sliceBound (.int k i) cap code).run P w = .ok i.toNat w := fun code => by simp [Instr.sliceBound, asIntOf, h0, h1]
        have e2 : ∀ code, (Instr.sliceBound (.int k' i') i.toNat code).run P w = .ok i'.toNat w := fun code => by simp [Instr.sliceBound, asIntOf, h2]; omega
        have e3 : ∀ code, (Instr.sliceBound (.int k'' i'') i'.toNat code).run P w = .ok i''.toNat w := fun code => by simp [Instr.sliceBound, asIntOf, h4]; omega
        simp [Instr.sliceBounds, e1, e2, e3]

theorem fill_splice (cells vs : Array Value) (off : Nat) (h : off + vs.size ≤ cells.size) :
    (vs.zipIdx.foldl (fun cs (c, j) => cs.setIfInBounds (off + j) c) cells).toList = splice cells.toList off vs.toList := by
  rw [← Array.foldl_toList]
  have key : ∀ (l : List Value) (k : Nat) (cs : Array Value), off + k + l.length ≤ cs.size →
      ((l.zipIdx k).foldl (fun (cs : Array Value) (c, j) => cs.setIfInBounds (off + j) c) cs).toList = splice cs.toList (off + k) l := by
    intro l
    induction l with
    | nil => intro k cs _; simp [splice]
    | cons v l ih =>
      intro k cs hl
      simp only [List.length_cons] at hl
      rw [List.zipIdx_cons, List.foldl_cons, ih (k + 1) _ (by simp; omega)]
      simp only [Array.toList_setIfInBounds, splice]
      apply List.ext_getElem?
      intro i
      simp only [List.getElem?_append, List.length_append, List.length_take, List.length_set, List.length_cons, List.getElem?_take, List.getElem?_drop, List.getElem?_set, Array.length_toList]
      have hk : off + k < cs.size := by omega
      by_cases h1 : i < off + k
      · simp [h1, show i < off + (k + 1) by omega, show min (off + (k+1)) cs.size = off + (k + 1) by omega, show min (off + k) cs.size = off + k by omega, show i < off + (k+1) + l.length by omega, show i < off + k + (l.length + 1) by omega, show off + k ≠ i by omega]
      · by_cases h2 : i = off + k
        · subst h2
          simp [show min (off + (k+1)) cs.size = off + (k + 1) by omega, show min (off + k) cs.size = off + k by omega, hk, show off + k < off + (k + 1) + l.length by omega, show off + k < off + (k + 1) by omega]
        · have e1 : min (off + (k+1)) cs.size = off + (k + 1) := by omega
          have e2 : min (off + k) cs.size = off + k := by omega
          rw [e1, e2]
          by_cases h3 : i < off + k + (l.length + 1)
          · rw [if_pos (show i < off + (k+1) + l.length by omega), if_neg (show ¬ i < off + (k+1) by omega), if_pos h3, if_neg h1]
            rw [show i - (off + k) = (i - (off + (k + 1))) + 1 by omega, List.getElem?_cons_succ]
          · rw [if_neg (show ¬ i < off + (k+1) + l.length by omega), if_neg h3]
            rw [show off + (k + 1) + l.length + (i - (off + (k + 1) + l.length)) = off + k + (l.length + 1) + (i - (off + k + (l.length + 1))) by omega]
            simp [show off + k ≠ off + k + (l.length + 1) + (i - (off + k + (l.length + 1))) by omega]
  have := key vs.toList 0 cells (by simpa using h)
  simpa using this

theorem fill_run (place : Nat → Option (Nat × Nat)) (ρ : Operand → Value) : ∀ (parts : List (Nat × Operand)) (l : List (Nat × Nat × X)) (t : T) (he : ∀ x, ev t (X.of x) = ρ x) (cells : Array Value) (cs : List Value),
    partsOf place parts = some l → fillL cells.toList (evp t l) = some cs → Instr.fill place cells (parts.map fun (i, x) => (i, ρ x)) = some cs.toArray
  | [], l, t, he, cells, cs, hp, hf => by
    simp only [partsOf, Option.some.injEq] at hp
    subst hp
    simp only [evp, fillL, Option.some.injEq] at hf
    subst hf
    simp [Instr.fill]
  | (i, x) :: rest, l, t, he, cells, cs, hp, hf => by
    simp only [partsOf] at hp
    cases h1 : place i with
    | none => rw [h1] at hp; simp at hp
    | some on =>
      obtain ⟨o, n⟩ := on
      cases h2 : partsOf place rest with
      | none => rw [h1, h2] at hp; simp at hp
      | some r =>
        rw [h1, h2] at hp
        simp only [Option.some.injEq] at hp
        subst hp
        simp only [evp, fillL, he] at hf
        split at hf
        · rename_i hc
          have hsz : (splice cells.toList o (ρ x).cells.toList) = ((ρ x).cells.zipIdx.foldl (fun cs (c, j) => cs.setIfInBounds (o + j) c) cells).toList := by
            rw [fill_splice]; simpa [hc.1] using hc.2
          rw [hsz] at hf
          have ih := fill_run place ρ rest r t he _ cs h2 hf
          simp only [List.map_cons, Instr.fill, h1]
          rw [if_neg (by have := hc.2; have := hc.1; simp at *; omega)]
          exact ih
        · exact absurd hf (by simp)

theorem placesOf_run {fs : Array Field} {ps : List (Nat × Nat)} (h : placesOf P fs.toList = some ps) :
    (fs.mapM fun f => (do pure (f.offset, ← sizeOf f.type) : Sem (Nat × Nat))).run P w = .ok ps.toArray w := by
  rw [← Array.toArray_toList (xs := fs), List.mapM_toArray, Sem.run_map]
  have key : ∀ (l : List Field) (ps : List (Nat × Nat)), placesOf P l = some ps → (l.mapM fun f => (do pure (f.offset, ← sizeOf f.type) : Sem (Nat × Nat))).run P w = .ok ps w := by
    intro l
    induction l with
    | nil => intro ps h; simp only [placesOf, List.mapM_nil] at h ⊢; simp only [Option.pure_def, Option.some.injEq] at h; subst h; rfl
    | cons f l ih =>
      intro ps h
      simp only [placesOf, List.mapM_cons] at h
      cases hi : P.info? f.type with
      | none => rw [hi] at h; simp at h
      | some i =>
        rw [hi] at h
        simp only [Option.map_some, Option.bind_eq_bind, Option.bind_some] at h
        cases hr : List.mapM (fun f : Field => (P.info? f.type).map fun i => (f.offset, i.size)) l with
        | none => rw [hr] at h; simp at h
        | some r =>
          rw [hr] at h
          simp only [Option.bind_some, Option.pure_def, Option.some.injEq] at h
          subst h
          have := ih r hr
          simp only [List.mapM_cons, Sem.run_bind, rL_size hi, Result.andThen_ok, this, Sem.run_pure]
  rw [key _ _ h]
  rfl

theorem repL_length (z : List Value) (n : Nat) : (repL z n).length = n * z.length := by
  induction n with
  | zero => simp [repL]
  | succ n ih => simp [repL, ih, Nat.succ_mul, Nat.add_comm]
theorem repL_get (z : List Value) : ∀ (n i : Nat), i < n * z.length → (repL z n)[i]? = z[i % z.length]?
  | 0, i, h => by simp at h
  | n + 1, i, h => by
    simp only [repL, List.getElem?_append]
    by_cases hi : i < z.length
    · rw [if_pos hi, Nat.mod_eq_of_lt hi]
    · rw [if_neg hi, repL_get z n (i - z.length) (by rw [Nat.succ_mul] at h; omega)]
      congr 1
      exact (Nat.mod_eq_sub_mod (Nat.le_of_not_lt hi)).symm
theorem repL_range (z : Array Value) (n : Nat) : (Array.range (n * z.size)).map (fun i => z[i % z.size]!) = (repL z.toList n).toArray := by
  apply Array.ext'
  apply List.ext_getElem?
  intro i
  simp only [Array.toList_map, List.getElem?_map, Array.toList_range]
  by_cases hi : i < n * z.size
  · have hz : 0 < z.size := by
      rcases Nat.eq_zero_or_pos z.size with h | h
      · rw [h] at hi; simp at hi
      · exact h
    have hm : i % z.size < z.size := Nat.mod_lt _ hz
    rw [repL_get _ _ _ (by simpa using hi), List.getElem?_range hi]
    simp [hm]
  · rw [List.getElem?_eq_none (by simp; omega), List.getElem?_eq_none (by simp [repL_length]; omega)]
    rfl
end
end Go.Fw
