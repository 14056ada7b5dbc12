import Derived.Test.YtbaljbadlfopgaaGfYN
set_option linter.all false
/- The decoder: of values that are those of a short polynomial at all but few points, Euclid's remainder divided by its factor is that polynomial. -/
set_option linter.unusedVariables false
set_option linter.unusedSimpArgs false
namespace Go.Fw
open Go
section
variable {n : Nat} [F : Fd n]
/-- The places at which the polynomial's values are not these. -/
def offs (g : List (El n)) (X Y : Nat → El n) (N : Nat) : List Nat := (List.range N).filter fun j => !decide (evl g (X j) = Y j)
theorem offs_mem {g : List (El n)} {X Y : Nat → El n} {N j : Nat} : j ∈ offs g X Y N ↔ j < N ∧ evl g (X j) ≠ Y j := by
  unfold offs
  rw [List.mem_filter, List.mem_range]
  simp
theorem evn_more2 {f : Ps n} {d e : Nat} (x : El n) (hd : Dg f d) (h : d ≤ e) : evn f x e = evn f x d := evn_eq (hd.mono h) hd
theorem mul_eq_zero' {w p : List (El n)} (hw : tln w ≠ 0) (h : co w * co p = 0) : co p = 0 := by
  by_cases hp : tln p = 0
  · exact co_zero_of_tln hp
  · exfalso
    have h1 := tln_mul (p := ([] : List (El n))) (by rw [h, co_nil]) hw hp
    simp [tln] at h1
    omega
theorem vps_tln (l : List (El n)) {w : List (El n)} (h : co w = vps l) : tln w = l.length + 1 := tln_of (by rw [h]; exact vps_dg l) (Or.inr (by rw [h, Nat.add_sub_cancel, vps_top]; exact El.one_ne))
theorem gao {N k d : Nat} {X Y : Nat → El n} (hX : ∀ a b, a < N → b < N → X a = X b → a = b) {A f m u v g : List (El n)} (hA : co A = vps ((List.range N).map X)) (hf : Dg (co f) N) (hfv : ∀ j, j < N → evn (co f) (X j) N = Y j)
    (h : Eu d (tr A) (tr f) [1] [] [] [1] m u v) (hk : k < N) (hd : d = (N + k + 1) / 2) (hg : Dg (co g) k) (hn : (offs g X Y N).length ≤ (N - k) / 2) : co m = co v * co g ∧ v ≠ [] := by
  have P := h.whole
  have tA : tln A = N + 1 := by rw [vps_tln _ hA]; simp
  have tf : tln f ≤ N := by
    have := len_le (a := tr f) (tr_tr f) (k := N) (by rw [tr_co]; exact hf)
    rwa [tr_len] at this
  obtain ⟨-, -, -, hz⟩ := h.lens
  have hvl : v.length + d ≤ N + 1 := by rw [← tA]; exact hz (by omega) (by omega)
  have hml := P.lm
  generalize he : (offs g X Y N).length = e at hn
  have dA : Dg (co A) (N + 1) := by rw [← tA]; exact tln_dg A
  have zA : ∀ j, j < N → evn (co A) (X j) (N + 1) = 0 := fun j hj => by
    have h1 := (ev_vps_zero (X j) ((List.range N).map X)).2 (List.mem_map.2 ⟨j, List.mem_range.2 hj, rfl⟩)
    rw [List.length_map, List.length_range] at h1
    rw [hA]; exact h1
  -- m at the points
  have hm : ∀ j, j < N → evn (co m) (X j) m.length = evn (co v) (X j) v.length * Y j := fun j hj => by
    have dv : Dg (co v * co f) (v.length + N) := ((co_dg v).mul hf).mono (by omega)
    have du : Dg (co u * co A) (u.length + (N + 1)) := ((co_dg u).mul dA).mono (by omega)
    obtain ⟨M, hM⟩ : ∃ M, M = m.length + u.length + v.length + N + N + 1 := ⟨_, rfl⟩
    have h1 : evn (co m) (X j) M = evn (co u * co A + co v * co f) (X j) M := by rw [P.eq]
    rw [evn_add, evn_more2 _ (co_dg m) (by omega), evn_more2 _ du (by omega), evn_more2 _ dv (by omega), evn_mul _ (co_dg u) dA, evn_mul _ (co_dg v) hf, zA j hj, El.mul_zero, El.zero_add, hfv j hj] at h1
    exact h1
  have hvne : v ≠ [] := by
    rintro rfl
    have e1 : co m = co u * co A := by rw [P.eq, co_nil, Ps.zero_mul, Ps.add_zero]
    have e2 : tln u = 0 := by
      by_cases hu : tln u = 0
      · exact hu
      · exfalso
        have h1 := tln_mul e1 hu (by omega)
        have := tln_le m
        omega
    obtain ⟨p, q, -, -, h1⟩ := P.cop
    rw [co_zero_of_tln e2, co_nil, Ps.mul_zero, Ps.mul_zero, Ps.add_zero] at h1
    exact El.one_ne (congrArg (fun f : Ps n => f.c 0) h1).symm
  refine ⟨?_, hvne⟩
  generalize hW : vps ((offs g X Y N).map X) = W
  have lW : ((offs g X Y N).map X).length = e := by rw [List.length_map, he]
  have dW : Dg W (e + 1) := by rw [← hW, ← lW]; exact vps_dg _
  have dvg : Dg (co v * co g) (v.length + k) := ((co_dg v).mul hg).mono (by omega)
  have dvg2 : Dg (co v * co g) (N - e) := ((co_dg v).mul hg).mono (by omega)
  have dF : Dg (co m + co v * co g) (N - e) := ((co_dg m).mono (by omega)).add dvg2
  have dP : Dg (W * (co m + co v * co g)) N := (dW.mul dF).mono (by omega)
  have hP : W * (co m + co v * co g) = 0 := zero_of X 0 N dP (fun a b ha hb e => hX a b ha hb (by simpa using e)) fun j hj => by
    rw [Nat.zero_add]
    rw [← evn_more2 (X j) dP (show N ≤ e + 1 + (N - e) by omega), evn_mul _ dW dF]
    by_cases hj2 : evl g (X j) = Y j
    · have h2 : evn (co m + co v * co g) (X j) (N - e) = 0 := by
        rw [evn_add, evn_more2 _ (co_dg m) (by omega), hm j hj, ← evn_more2 (X j) dvg2 (show N - e ≤ N + N + 1 + v.length + k by omega), evn_more2 _ dvg (by omega), evn_mul _ (co_dg v) hg]
        rw [evl_co, ← evn_eq (e := g.length) hg (co_dg g)] at hj2
        rw [hj2, El.add_self]
      rw [h2, El.mul_zero]
    · have h2 := (ev_vps_zero (X j) ((offs g X Y N).map X)).2 (List.mem_map.2 ⟨j, offs_mem.2 ⟨hj, hj2⟩, rfl⟩)
      rw [lW, hW] at h2
      rw [h2, El.zero_mul]
  have hWl : co (ofc (e + 1) W) = W := ofc_co dW
  have hFl : co (ofc (N - e) (co m + co v * co g)) = co m + co v * co g := ofc_co dF
  have h3 := mul_eq_zero' (w := ofc (e + 1) W) (p := ofc (N - e) (co m + co v * co g)) (by rw [vps_tln ((offs g X Y N).map X) (by rw [hWl, hW])]; omega) (by rw [hWl, hFl, hP])
  rw [hFl] at h3
  exact Ps.eq_of_add h3
/-- What divides with no remainder. -/
theorem gao_div {m v g q rest : List (El n)} (hm : co m = co v * co g) (hg : tr g = g) (tq : tr q = q) (tm : tr rest = rest) (he : co m = co q * co v + co rest) (hl : rest.length < tln v) : q = g ∧ rest = [] :=
  div_uniq tq tm hg tr_nil he (by rw [hm, co_nil, Ps.add_zero, Ps.mul_comm]) hl (by simp; omega)
theorem filter3 {α : Type} (p q : α → Bool) : ∀ l : List α, l.length ≤ (l.filter fun x => p x && q x).length + (l.filter fun x => !p x).length + (l.filter fun x => !q x).length
  | [] => by simp
  | a :: l => by
    have ih := filter3 p q l
    simp only [List.filter_cons]
    cases p a <;> cases q a <;> simp <;> omega
/-- At most one short polynomial is near. -/
theorem near_uniq {N k : Nat} {X Y : Nat → El n} (hX : ∀ a b, a < N → b < N → X a = X b → a = b) {g g' : List (El n)} (hk : k ≤ N) (tg : tr g = g) (tg' : tr g' = g') (hg : g.length ≤ k) (hg' : g'.length ≤ k)
    (h : (offs g X Y N).length + (offs g' X Y N).length + k ≤ N) : g = g' := by
  obtain ⟨L, hL⟩ : ∃ L, L = (List.range N).filter fun j => decide (evl g (X j) = Y j) && decide (evl g' (X j) = Y j) := ⟨_, rfl⟩
  have hmem : ∀ j, j ∈ L → j < N ∧ evl g (X j) = Y j ∧ evl g' (X j) = Y j := fun j hj => by
    rw [hL, List.mem_filter, List.mem_range] at hj
    simpa using hj
  have hlen : k ≤ L.length := by
    have h1 := filter3 (fun j => decide (evl g (X j) = Y j)) (fun j => decide (evl g' (X j) = Y j)) (List.range N)
    rw [List.length_range, ← hL] at h1
    unfold offs at h
    omega
  have hnd : (L.map X).Nodup := by
    have h0 : L.Pairwise (· < ·) := by rw [hL]; exact List.Pairwise.filter _ List.pairwise_lt_range
    unfold List.Nodup
    rw [List.pairwise_map]
    refine List.Pairwise.imp_of_mem (R := (· < ·)) (fun {a b} ha hb hab e => ?_) h0
    have := hX a b (hmem a ha).1 (hmem b hb).1 e
    omega
  have dS : Dg (co g + co g') k := ((co_dg g).mono hg).add ((co_dg g').mono hg')
  have h4 : co (ofc k (co g + co g')) = co g + co g' := ofc_co dS
  have h5 := roots_zero (L.map X) (ofc k (co g + co g')) hnd (by rw [ofc_len, List.length_map]; exact hlen) fun z hz => by
    obtain ⟨j, hj, rfl⟩ := List.mem_map.1 hz
    obtain ⟨-, h1, h2⟩ := hmem j hj
    rw [evl_co, h4, ofc_len, evn_add, evn_more2 _ (co_dg g) hg, evn_more2 _ (co_dg g') hg', ← evl_co, ← evl_co, h1, h2, El.add_self]
  rw [h4] at h5
  exact tr_inj tg tg' (Ps.eq_of_add h5)
end
end Go.Fw
