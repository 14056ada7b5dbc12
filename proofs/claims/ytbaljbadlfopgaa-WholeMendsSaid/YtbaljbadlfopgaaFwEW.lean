import Derived.Test.YtbaljbadlfopgaaFwDW
set_option linter.all false
set_option linter.unusedVariables false
set_option linter.unusedSimpArgs false
namespace Go.Fw
open Go
section
variable {P : Program} {w : World}

theorem copy_run {ts : Array TypeId} {t e ty : TypeId} {i : TypeInfo} {d x : Value} {K : Value → World → Prop} (ht0 : ts[0]? = some t) (ht : P.underlying t = some (.slice e)) (hi : P.info? e = some i)
    (h : cpyK w i.size d x K) : ∃ v w', K v w' ∧ (Builtin.copy_ ts ty #[d, x]).run P w = .ok v w' := by
  obtain ⟨a, len, cap, rfl, h1⟩ := asS_e h
  clear h
  obtain ⟨b, n, c, rfl, news, hl, hr, hs, h⟩ := asS_e h1
  clear h1
  have hf : (Builtin.firstCells i.size (min n len) (.slice b n c)).run P w = .ok news.toArray w := first_run' hl hr
  rcases h with ⟨rfl, h⟩ | ⟨g, o, cs, rfl, hR, ho, h⟩
  · refine ⟨_, _, h, ?_⟩
    cases a <;> simp [Builtin.copy_, ht0, rL_underlying ht, rL_size hi, Builtin.lenOf, hf, Nat.min_def, storeCells, goInt] at hf ⊢ <;> simp [hf, storeCells, goInt]
  · have hst := store_run (P := P) (w := w) (g := g) (o := o) (vs := news) hR ho hs
    refine ⟨_, _, h, ?_⟩
    have hf' : (Builtin.firstCells i.size (n.min len) (.slice b n c)).run P w = .ok news.toArray w := hf
    simp only [Builtin.copy_, ht0, List.getElem?_toArray, List.getElem?_cons_zero, List.getElem?_cons_succ]
    simp [rL_underlying ht, rL_size hi, Builtin.lenOf, hf', hst, goInt]
theorem clear_run {ts : Array TypeId} {t e ty : TypeId} {i : TypeInfo} {z x : Value} {K : Value → World → Prop} (ht0 : ts[0]? = some t) (ht : P.underlying t = some (.slice e)) (hi : P.info? e = some i) (hz : i.zero = some z)
    (h : clrK w z.cells.toList x K) : ∃ v w', K v w' ∧ (Builtin.clear_ ts ty #[x]).run P w = .ok v w' := by
  obtain ⟨a, n, cap, rfl, h1⟩ := asS_e h
  clear h
  rcases h1 with ⟨rfl, h⟩ | ⟨hn, g, o, cs, rfl, hR, ho, hs, h⟩
  · refine ⟨_, _, h, ?_⟩
    cases a <;> simp [Builtin.clear_, ht0, rL_underlying ht]
  · have hst := store_run (P := P) (w := w) (g := g) (o := o) (vs := repL z.cells.toList n) hR (by rw [repL_length]; exact ho) (fun u hu => by
      have : u ∈ z.cells.toList := by
        clear hR ho h hn
        induction n with
        | zero => simp [repL] at hu
        | succ n ih =>
          rw [repL] at hu
          rcases List.mem_append.1 hu with h5 | h5
          · exact h5
          · exact ih h5
      exact hs u this)
    refine ⟨_, _, h, ?_⟩
    have ez : (Builtin.zeroCells z.cells n).toList = repL z.cells.toList n := by
      have := repL_range z.cells n
      unfold Builtin.zeroCells
      rw [this]
    simp only [Builtin.clear_, ht0, List.getElem?_toArray, List.getElem?_cons_zero]
    cases n with
    | zero => exact absurd hn (Nat.lt_irrefl 0)
    | succ n => simp [rL_underlying ht, rL_zero hi hz, ez, hst]
theorem wrap64_id {n : Int} (h0 : -9223372036854775808 ≤ n) (h1 : n < 9223372036854775808) : IntKind.i64.wrap n = n := by
  have e : IntKind.i64.wrap n = if n % 18446744073709551616 ≥ 9223372036854775808 then n % 18446744073709551616 - 18446744073709551616 else n % 18446744073709551616 := by
    simp [IntKind.wrap, IntKind.bits, IntKind.signed]
  rw [e]
  split <;> omega
theorem make_run {t e : TypeId} {i : TypeInfo} {z l c : Value} {K : Value → World → Prop} (ht : P.underlying t = some (.slice e)) (hi : P.info? e = some i) (hz : i.zero = some z) (hzs : z.cells.size = i.size)
    (h : mksK w e i.bytes z.cells.toList l c K) : ∃ v w', K v w' ∧ (Instr.makeSlice t l c).run P w = .ok v w' := by
  obtain ⟨k, l, rfl, h1⟩ := asI_e h
  clear h
  obtain ⟨k', c, rfl, ⟨h0, h2, h3, h4⟩, h⟩ := asI_e h1
  clear h1
  refine ⟨_, _, h, ?_⟩
  have wl : IntKind.i64.wrap l = l := wrap64_id (by omega) (by omega)
  have wc : IntKind.i64.wrap c = c := wrap64_id (by omega) (by omega)
  have hb : ¬ (2 ^ 48 < (i.bytes : Int) * c) := by
    have : (maxBytes : Int) = 2 ^ 48 := by decide
    omega
  have hrep : (Array.range (c.toNat * z.cells.size)).map (fun j => z.cells[j % z.cells.size]!) = (repL z.cells.toList c.toNat).toArray := repL_range _ _
  by_cases hn : c.toNat * i.size = 0
  · have hr0 : repL z.cells.toList c.toNat = [] := by
      apply List.eq_nil_of_length_eq_zero
      rw [repL_length]; simpa [hzs] using hn
    simp [Instr.makeSlice, rL_underlying ht, rL_info hi, rL_size hi, asInt, asIntOf, wl, wc, askRoom, hn, hr0, newRow]
    have e1 : ¬ (c < 0 ∨ 281474976710656 < (i.bytes : Int) * c) := by omega
    have e2 : ¬ ((c < 0 ∨ 281474976710656 < (i.bytes : Int) * c) ∨ l < 0 ∨ c < l) := by omega
    simp [show ¬ c < 0 by omega, show ¬ l < 0 by omega, show ¬ c < l by omega, show ¬ (281474976710656 < (i.bytes : Int) * c) by omega]
    rw [show Array.range 0 = #[] from by simp [Array.range]]; simp
  · simp [Instr.makeSlice, rL_underlying ht, rL_info hi, rL_size hi, rL_zero hi hz, asInt, asIntOf, wl, wc, askRoom, hn, newRow]
    simp [show ¬ c < 0 by omega, show ¬ l < 0 by omega, show ¬ c < l by omega, show ¬ (281474976710656 < (i.bytes : Int) * c) by omega]
    rw [← hzs, hrep]
theorem loadn_run {t : TypeId} {d : TypeDesc} {i : TypeInfo} {x : Value} {K : Value → Prop} (ht : P.underlying t = some d) (hd : agT d = true) (hi : P.info? t = some i)
    (h : ldnK w i.size x K) : ∃ v, K v ∧ (Instr.loadAt t x).run P w = .ok v w := by
  obtain ⟨p, rfl, vs, hl, hr, h⟩ := asP_e h
  have := run_loadCells_list (P := P) w p vs hr
  rw [hl] at this
  exact ⟨_, h, by simp [Instr.loadAt, Instr.sureAddr, loadVar, rL_agg ht, hd, rL_size hi, this]⟩
theorem load_run {t : TypeId} {d : TypeDesc} {x : Value} {K : Value → Prop} (ht : P.underlying t = some d) (hd : agT d = false)
    (h : ldK w x K) : ∃ v, K v ∧ (Instr.loadAt t x).run P w = .ok v w := by
  obtain ⟨p, rfl, v, hv, h⟩ := asP_e h
  exact ⟨_, h, by simp [Instr.loadAt, Instr.sureAddr, loadVar, rL_agg ht, hd, hv]⟩
theorem store1_run {t : TypeId} {i : TypeInfo} {x v : Value} {K : World → Prop} (hi : P.info? t = some i) (h1 : i.size = 1)
    (h : stK w x v K) : ∃ w', K w' ∧ (Instr.storeAt t x v).run P w = .ok () w' := by
  obtain ⟨p, rfl, ⟨old, ho⟩, hf, hs, h⟩ := asP_e h
  refine ⟨_, h, ?_⟩
  have e := scal_cells hs
  have hp : p.add 0 = p := by simp [Addr.add]
  simp [Instr.storeAt, Instr.sureAddr, storeVar, rL_size hi, h1, e, storeCells, hp, run_store P w p v _ (oneCell_of_scal hs), ho, hf]
theorem storen_run {t : TypeId} {i : TypeInfo} {x v : Value} {K : World → Prop} (hi : P.info? t = some i)
    (h : stnK w i.size x v K) : ∃ w', K w' ∧ (Instr.storeAt t x v).run P w = .ok () w' := by
  obtain ⟨p, rfl, h'⟩ := asP_e h
  clear h
  obtain ⟨vs, rfl, hl, hs, cs, hsp, hR, ho, h⟩ := asA_e h'
  clear h'
  refine ⟨_, h, ?_⟩
  have hpp : p = ⟨p.block, p.off, none⟩ := by cases p; simp at hsp; subst hsp; rfl
  have hst := store_run (P := P) (w := w) (g := p.block) (o := p.off) (vs := vs.toList) hR (by rw [hl]; exact ho) hs
  rw [← hpp] at hst
  have hl' : vs.size = i.size := by simpa using hl
  simp [Instr.storeAt, Instr.sureAddr, storeVar, rL_size hi, Value.cells, hl', hst]
end
end Go.Fw
