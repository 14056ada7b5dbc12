import Derived.Test.YtbaljbadlfopgaaFwCW
set_option linter.all false
set_option linter.unusedVariables false
set_option linter.unusedSimpArgs false
namespace Go.Fw
open Go
section
variable {P : Program} {w : World}

theorem oneCell_of_scal {v : Value} (h : scal v = true) : v.oneCell' = true := by cases v <;> first | rfl | exact h
theorem scal_cells {v : Value} (h : scal v = true) : v.cells = #[v] := by cases v <;> first | rfl | cases h
theorem addr_add0 (g o n : Nat) : (⟨g, o, none⟩ : Addr).add n = ⟨g, o + n, none⟩ := by unfold Addr.add; split <;> simp_all

theorem first_run {b : Option Addr} {n c sz : Nat} {news : List Value} (hl : news.length = n * sz) (h : reads w b news) :
    (Builtin.firstCells sz n (.slice b n c)).run P w = .ok news.toArray w := by
  cases b with
  | none =>
    rcases h with rfl | ⟨p, hp, _⟩
    · exact run_firstCells_none w sz n n c
    · cases hp
  | some p =>
    refine run_firstCells_some w sz n p n c news hl ?_
    rcases h with rfl | ⟨p', hp, hr⟩
    · intro j v hj; simp at hj
    · cases hp; exact hr
/-- As 'first_run', for the first m of n. -/
theorem first_run' {b : Option Addr} {n m c sz : Nat} {news : List Value} (hl : news.length = m * sz) (h : reads w b news) :
    (Builtin.firstCells sz m (.slice b n c)).run P w = .ok news.toArray w := by
  cases b with
  | none =>
    rcases h with rfl | ⟨p, hp, _⟩
    · exact run_firstCells_none w sz m n c
    · cases hp
  | some p =>
    refine run_firstCells_some w sz m p n c news hl ?_
    rcases h with rfl | ⟨p', hp, hr⟩
    · intro j v hj; simp at hj
    · cases hp; exact hr

theorem splice_arr (cs : List Value) (o : Nat) (vs : List Value) : (cs.toArray.toList.take o ++ vs ++ cs.toArray.toList.drop (o + vs.length)).toArray = (splice cs o vs).toArray := by simp [splice]

theorem store_run {g o : Nat} {cs vs : List Value} (hr : Row w g cs) (hl : o + vs.length ≤ cs.length) (hs : ∀ u ∈ vs, scal u = true) :
    (storeCells ⟨g, o, none⟩ vs).run P w = .ok () (setRow w g (splice cs o vs)) := by
  obtain ⟨e, he⟩ := hr
  have := run_storeCells_at P g o e vs 0 cs.toArray w he (by simpa using hl) (fun v hv => oneCell_of_scal (hs v hv))
  simp only [Nat.add_zero] at this
  rw [this]
  rw [splice_arr]
  rfl

theorem nextcap_le (need cap : Nat) (h : cap < need) : Builtin.nextslicecap need cap ≤ 2 * need + 1024 := by
  unfold Builtin.nextslicecap
  split
  · omega
  · split
    · omega
    · simp only [Builtin.growBy]
      repeat' split
      all_goals omega

theorem append_run {t u e ty : TypeId} {i : TypeInfo} {z s x : Value} {e' : TypeId} {K : Value → World → Prop} (ht : P.underlying t = some (.slice e)) (hu : P.underlying u = some (.slice e')) (hi : P.info? e = some i) (hz : i.zero = some z)
    (hzs : z.cells.size = i.size) (h : appK w e i.bytes z.cells.toList s x K) :
    ∃ v w', K v w' ∧ (Builtin.append_ #[t, u] ty #[s, x]).run P w = .ok v w' := by
  obtain ⟨a, len, cap, rfl, h1⟩ := asS_e h
  clear h
  obtain ⟨b, n, c, rfl, news, hl, hr, hs, hb, hn, h⟩ := asS_e h1
  clear h1
  have hl' : news.length = n * i.size := by rw [hl, ← hzs]; simp
  by_cases hc : len + n ≤ cap
  · rw [if_pos hc] at h
    have hf := first_run (P := P) (c := c) hl' hr
    rcases h with ⟨rfl, rfl, h⟩ | ⟨g, o, cs, rfl, hR, ho, h⟩
    · exact ⟨_, _, h, by simp [Builtin.append_, rL_underlying ht, rL_underlying hu, rL_size hi, Builtin.lenOf, hc, hf]⟩
    · have hst := store_run (P := P) (w := w) (g := g) (o := o + len * i.size) (vs := news) hR (by
        have : z.cells.toList.length = i.size := by simpa using hzs
        rw [this] at ho
        rw [hl', Nat.add_assoc, ← Nat.add_mul]; exact ho) hs
      refine ⟨_, _, h, ?_⟩
      have hzl : z.cells.toList.length = i.size := by simpa using hzs
      simp only [hzl]
      simp [Builtin.append_, rL_underlying ht, rL_underlying hu, rL_size hi, Builtin.lenOf, hc, hf, addr_add0, hst]
  · rw [if_neg hc] at h
    obtain ⟨olds, hol, hor, h⟩ := h
    have hol' : olds.length = len * i.size := by rw [hol, ← hzs]; simp
    have hzl : z.cells.toList.length = i.size := by simpa using hzs
    have hlim : Builtin.nextslicecap (len + n) cap * i.bytes ≤ 2 ^ 48 := by
      unfold maxBytes at hb
      rcases hb with hb | ⟨hb1, hb⟩
      · have hcap := nextcap_le (len + n) cap (by omega)
        have h1 : Builtin.nextslicecap (len + n) cap * i.bytes ≤ (2 * (len + n) + 1024) * i.bytes := Nat.mul_le_mul_right _ hcap
        rw [Nat.add_mul] at h1
        omega
      · have : Builtin.nextslicecap (len + n) cap = len + n := by
          unfold Builtin.nextslicecap
          rw [if_pos (by omega)]
        rw [this]; omega
    have hf := first_run (P := P) (w := w.drew) (c := c) hl' hr
    have hfo := first_run (P := P) (w := w.drew) (c := cap) hol' hor
    let nc := grownCap w (len + n) cap e
    have hge : len + n ≤ nc := grownCap_ge w (len + n) cap e
    refine ⟨_, _, h nc hge, ?_⟩
    have h63 : ¬ (9223372036854775807 < ((len : Int) + (n : Int))) := by omega
    have h48 : ¬ (281474976710656 < Builtin.nextslicecap (len + n) cap * i.bytes) := by omega
    have hzc : Builtin.zeroCells z.cells (nc - (len + n)) = (repL z.cells.toList (nc - (len + n))).toArray := repL_range _ _
    simp [Builtin.append_, rL_underlying ht, rL_underlying hu, rL_size hi, rL_info hi, rL_zero hi hz, Builtin.lenOf, hc, hf, hfo, h63, h48, Question.forced, newRow]
    refine ⟨rfl, ?_⟩
    have e1 : (Question.appendCap (len + n) cap e).cut (w.tape w.drawn (Question.appendCap (len + n) cap e)) = nc := rfl
    rw [e1, hzc]
    congr 2
    apply Array.ext'
    simp
theorem append_zrun {t u e ty : TypeId} {i : TypeInfo} {z s x : Value} {ik : IntKind} {K : Value → World → Prop} (ht : P.underlying t = some (.slice e)) (hu : P.underlying u = some (.int ik)) (hi : P.info? e = some i) (hz : i.zero = some z)
    (hzs : z.cells.size = i.size) (h : apzK w e i.bytes z.cells.toList s x K) :
    ∃ v w', K v w' ∧ (Builtin.append_ #[t, u] ty #[s, x]).run P w = .ok v w' := by
  obtain ⟨a, len, cap, rfl, h1⟩ := asS_e h
  clear h
  obtain ⟨k, n', rfl, ⟨hn0, hn1⟩, hs0, hb, hn, h⟩ := asI_e h1
  clear h1
  obtain ⟨n, rfl⟩ : ∃ n : Nat, n' = (n : Int) := ⟨n'.toNat, by omega⟩
  simp only [Int.toNat_natCast] at hb hn h
  have hl : (repL z.cells.toList n).length = n * z.cells.toList.length := repL_length _ _
  have hs : ∀ u ∈ repL z.cells.toList n, scal u = true := by
    intro u hu
    have key : ∀ m, u ∈ repL z.cells.toList m → u ∈ z.cells.toList := by
      intro m
      induction m with
      | zero => intro h; simp [repL] at h
      | succ m ih => intro h; simp only [repL, List.mem_append] at h; rcases h with h | h; exact h; exact ih h
    exact hs0 u (key n hu)
  have hzc : Builtin.zeroCells z.cells n = (repL z.cells.toList n).toArray := repL_range _ _
  have hw64 : IntKind.i64.wrap (n : Int) = n := by
    have e : IntKind.i64.wrap (n : Int) = if (n : Int) % 18446744073709551616 ≥ 9223372036854775808 then (n : Int) % 18446744073709551616 - 18446744073709551616 else (n : Int) % 18446744073709551616 := by
      simp [IntKind.wrap, IntKind.bits, IntKind.signed]
    rw [e]; split <;> omega
  have hlim0 : ¬ (281474976710656 < (n : Int) * (i.bytes : Int)) := by
    have h1 : n * i.bytes ≤ 2 * (len + n) * i.bytes := Nat.mul_le_mul_right _ (by omega)
    have h1' : n * i.bytes ≤ (len + n) * i.bytes := Nat.mul_le_mul_right _ (by omega)
    have h2 : n * i.bytes ≤ maxBytes := by rcases hb with hb | ⟨-, hb⟩ <;> omega
    have h3 : ((n * i.bytes : Nat) : Int) ≤ (maxBytes : Nat) := by exact_mod_cast h2
    have h4 : ((maxBytes : Nat) : Int) = 281474976710656 := rfl
    rw [h4] at h3
    push_cast at h3
    omega
  have hnil : (n = 0 ∨ i.size = 0) → repL z.cells.toList n = [] := by
    intro h0
    have hzl : z.cells.toList.length = i.size := by simpa using hzs
    refine List.eq_nil_of_length_eq_zero ?_
    rw [repL_length, hzl]
    exact Nat.mul_eq_zero.2 h0
  have hneg : ¬ ((n : Int) < 0) := by omega
  generalize hnews : repL z.cells.toList n = news at *
  have hl' : news.length = n * i.size := by rw [hl, ← hzs]; simp
  by_cases hc : len + n ≤ cap
  · rw [if_pos hc] at h
    rcases h with ⟨rfl, rfl, h⟩ | ⟨g, o, cs, rfl, hR, ho, h⟩
    · refine ⟨_, _, h, ?_⟩
      by_cases h0 : n = 0 ∨ i.size = 0 <;> simp [Builtin.append_, rL_underlying ht, rL_underlying hu, rL_size hi, asInt, asIntOf, hw64, hneg, rL_info hi, hlim0, hc, h0, rL_zero hi hz, hzc]
    · have hst := store_run (P := P) (w := w) (g := g) (o := o + len * i.size) (vs := news) hR (by
        have : z.cells.toList.length = i.size := by simpa using hzs
        rw [this] at ho
        rw [hl', Nat.add_assoc, ← Nat.add_mul]; exact ho) hs
      refine ⟨_, _, h, ?_⟩
      have hzl : z.cells.toList.length = i.size := by simpa using hzs
      simp only [hzl]
      by_cases h0 : n = 0 ∨ i.size = 0
      · have hn0 := hnil h0
        subst hn0
        have hst0 : w = setRow w g (splice cs (o + len * i.size) []) := by
          have : (storeCells ⟨g, o + len * i.size, none⟩ []).run P w = .ok () w := rfl
          rw [this] at hst
          injection hst
        rw [← hst0]
        have h0' : n * i.size = 0 := Nat.mul_eq_zero.2 h0
        simp [Builtin.append_, rL_underlying ht, rL_underlying hu, rL_size hi, asInt, asIntOf, hw64, hneg, rL_info hi, hlim0, hc, h0, h0', addr_add0, storeCells]
      · have h0' : ¬ (n * i.size = 0) := fun e => h0 (Nat.mul_eq_zero.1 e)
        simp [Builtin.append_, rL_underlying ht, rL_underlying hu, rL_size hi, asInt, asIntOf, hw64, hneg, rL_info hi, hlim0, hc, h0, h0', rL_zero hi hz, hzc, addr_add0, hst]
  · rw [if_neg hc] at h
    obtain ⟨olds, hol, hor, h⟩ := h
    have hol' : olds.length = len * i.size := by rw [hol, ← hzs]; simp
    have hzl : z.cells.toList.length = i.size := by simpa using hzs
    have hlim : Builtin.nextslicecap (len + n) cap * i.bytes ≤ 2 ^ 48 := by
      unfold maxBytes at hb
      rcases hb with hb | ⟨hb1, hb⟩
      · have hcap := nextcap_le (len + n) cap (by omega)
        have h1 : Builtin.nextslicecap (len + n) cap * i.bytes ≤ (2 * (len + n) + 1024) * i.bytes := Nat.mul_le_mul_right _ hcap
        rw [Nat.add_mul] at h1
        omega
      · have : Builtin.nextslicecap (len + n) cap = len + n := by
          unfold Builtin.nextslicecap
          rw [if_pos (by omega)]
        rw [this]; omega
    have hfo := first_run (P := P) (w := w.drew) (c := cap) hol' hor
    let nc := grownCap w (len + n) cap e
    have hge : len + n ≤ nc := grownCap_ge w (len + n) cap e
    refine ⟨_, _, h nc hge, ?_⟩
    have h63 : ¬ (9223372036854775807 < ((len : Int) + (n : Int))) := by omega
    have h48 : ¬ (281474976710656 < Builtin.nextslicecap (len + n) cap * i.bytes) := by omega
    have hzc2 : Builtin.zeroCells z.cells (nc - (len + n)) = (repL z.cells.toList (nc - (len + n))).toArray := repL_range _ _
    have e1 : (Question.appendCap (len + n) cap e).cut (w.tape w.drawn (Question.appendCap (len + n) cap e)) = nc := rfl
    by_cases h0 : n = 0 ∨ i.size = 0
    · have hn0 := hnil h0
      subst hn0
      simp [Builtin.append_, rL_underlying ht, rL_underlying hu, rL_size hi, rL_info hi, rL_zero hi hz, asInt, asIntOf, hw64, hneg, hlim0, hc, h0, hfo, h63, h48, Question.forced, newRow]
      rw [e1, hzc2, if_pos (Nat.mul_eq_zero.2 h0)]
      simp
    · have h0' : ¬ (n * i.size = 0) := fun e => h0 (Nat.mul_eq_zero.1 e)
      simp [Builtin.append_, rL_underlying ht, rL_underlying hu, rL_size hi, rL_info hi, rL_zero hi hz, asInt, asIntOf, hw64, hneg, hlim0, hc, h0, h0', hzc, hfo, h63, h48, Question.forced, newRow]
      refine ⟨rfl, ?_⟩
      rw [e1, hzc2]
      congr 2
      apply Array.ext'
      simp
end
end Go.Fw
