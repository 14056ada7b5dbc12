/- What was split is joined again; zeros behind. -/
import Derived.Test.YtcbjabnnokjnpaaPureC
import Derived.Test.YtcbjabnnokjnpaaPAx0
import Derived.Test.YtcbjabnnokjnpaaPAx3
import Derived.Test.YtcbjabnnokjnpaaPAx5
set_option linter.unusedVariables false
set_option linter.unusedSectionVars false
namespace Go.Proofs.Ytcbjabnnokjnpaa.Pure
open Go.RowKit Go.Proofs.Ytcbjabnnokjnpaa.PA Go.Proofs.YtcbjabnnokjnpaaW.PrintWords Go.Proofs.YtcbjabnnokjnpaaW.PrintLast Go.Proofs.YtcbjabnnokjnpaaW.PrintMore

theorem rd_cpy (T : Nat) (d : List Int) (i : Nat) (h : d.length ≤ i) : rd (cpy T d) (i : Int) = 0 := by
  rw [cpy_eq]; unfold rd
  rw [Int.toNat_natCast, List.getD_eq_getElem?_getD, List.getElem?_append_right (by rw [List.length_take]; omega), List.getElem?_replicate]
  split <;> rfl
theorem cpy_take (T : Nat) (d : List Int) (h : d.length ≤ T) : (cpy T d).take d.length = d := by
  rw [cpy_eq, List.take_of_length_le h, List.take_left]
structure Back (f : Int) (K M L : Nat) (d : List Int) : Prop where
  par : par f K M = 0
  k1 : 1 ≤ K
  m1 : 1 ≤ M
  km : K + M ≤ 65536
  l1 : 1 ≤ L
  dl : d.length ≤ K * L
  tot : (K + M) * L ≤ 67108864
  odd : ¬ (f = 2 ∧ (L : Int) % 2 = 1)
section
variable {f : Int} {K M L : Nat} {d : List Int} (B : Back f K M L d)
include B
theorem back_rows : rowsS K L 0 (K + M) d = rowsS K L 0 K d ++ List.replicate M (List.replicate L 0) := rowsS_split K L K 0 M d (by omega)
theorem back_take : (rowsS K L 0 (K + M) d).take K = rowsS K L 0 K d := by
  rw [back_rows B]
  have h := rowsS_length K L K 0 d
  rw [List.take_append_of_le_length (by omega), List.take_of_length_le (by omega)]
theorem back_same {X : List (List Int)} (hX : X ≠ []) (hm : ∀ s ∈ X, s.length = L) : emp 0 X = [] ∧ first X = L ∧ evens L X = true := by
  have l1 := B.l1
  have he : emp 0 X = [] := (emp_nil X 0).2 fun s hs => by rw [hm s hs]; omega
  refine ⟨he, ?_, ?_⟩
  · obtain ⟨s, hs, h⟩ := first_mem he hX
    rw [← h, hm s hs]
  · simp only [evens, List.all_eq_true, Bool.or_eq_true, beq_iff_eq]
    exact fun s hs => .inr (hm s hs)
theorem back_ne (c j : Nat) (h : 0 < c) : rowsS K L j c d ≠ [] := fun e => by have := rowsS_length K L c j d; rw [e] at this; simp at this; omega
theorem back_whole : wholeV f K M (rowsS K L 0 (K + M) d) = ((L : Int), 0) := by
  have k1 := B.k1
  obtain ⟨h1, h2, h3⟩ := back_same B (back_ne B (K + M) 0 (by omega)) (rowsS_mem K L (K + M) 0 d)
  unfold wholeV
  rw [if_pos B.par, if_pos (by rw [rowsS_length]; omega), if_pos h1, h2, if_pos h3, if_neg B.odd]
theorem back_join (X : List (List Int)) (hX : X.take K = rowsS K L 0 K d) (hl : K ≤ X.length) (size : Int) :
    joinV f K M X size = if size < 0 ∨ size > ((K * L : Nat) : Int) then ([], 164) else ((cpy (K * L) d).take size.toNat, 0) := by
  have k1 := B.k1
  obtain ⟨h1, h2, h3⟩ := back_same B (back_ne B K 0 (by omega)) (rowsS_mem K L K 0 d)
  unfold joinV
  rw [Int.toNat_natCast, hX, if_pos B.par, if_neg (by omega), if_pos h1, h2, if_pos h3, if_neg B.odd, rowsS_flat K L K 0 d (by omega), Int.natCast_mul]
theorem back_flat : (rowsS K L 0 (K + M) d).flatten.length ≤ 67108864 := by
  rw [flat_length (rowsS_mem K L (K + M) 0 d), rowsS_length]; exact B.tot
theorem back_kl : K * L ≤ 67108864 := Nat.le_trans (Nat.mul_le_mul_right _ (by omega)) B.tot
theorem back_row (j : Nat) (h : K ≤ j) (h2 : j < K + M) : rd_L2 (rowsS K L 0 (K + M) d) (j : Int) = List.replicate L 0 := by
  have hl := rowsS_length K L K 0 d
  unfold rd_L2
  rw [back_rows B, Int.toNat_natCast, List.getD_eq_getElem?_getD, List.getElem?_append_right (by omega), List.getElem?_replicate, if_pos (by omega)]; rfl
theorem back_l2 (j : Nat) (h : K ≤ j) (h2 : j < K + M) (hn : Ev (fun q => culletlaw16_ShapeBack.l1 q f (K : Int) (M : Int) (L : Int) (rowsS K L 0 (K + M) d) ((j + 1 : Nat) : Int)) true) : ∀ (c i : Nat), i + c = L →
    Ev (fun q => culletlaw16_ShapeBack.l2 q f (K : Int) (M : Int) (L : Int) (rowsS K L 0 (K + M) d) (j : Int) (i : Int)) true
  | 0, i, hi => by
    have km := B.km
    refine Ev.step (fun q => ?_) hn
    simp only [culletlaw16_ShapeBack.l2]
    rw [if_neg (by omega), w64 (by omega) (by omega)]; rfl
  | c + 1, i, hi => by
    have kl := back_kl B
    have hl : L ≤ K * L := Nat.le_mul_of_pos_left _ B.k1
    have ih := back_l2 j h h2 hn c (i + 1) (by omega)
    refine Ev.step (fun q => ?_) ih
    have hrow := back_row B j h h2
    simp only [culletlaw16_ShapeBack.l2]
    rw [if_pos (by omega), if_pos (by omega), if_pos (by rw [rowsS_length]; omega), if_pos (by omega), hrow, if_pos (by simp; omega), if_pos, w64 (by omega) (by omega)]
    · rfl
    · unfold rd
      rw [Int.toNat_natCast, List.getD_eq_getElem?_getD, List.getElem?_replicate]
      split <;> rfl
theorem back_l1 : ∀ (c j : Nat), j + c = K + M → K ≤ j → Ev (fun q => culletlaw16_ShapeBack.l1 q f (K : Int) (M : Int) (L : Int) (rowsS K L 0 (K + M) d) (j : Int)) true
  | 0, j, hj, hk => by
    have km := B.km
    have kl := back_kl B
    have tot := back_flat B
    have e : (K : Int) * (L : Int) = ((K * L : Nat) : Int) := by rw [Int.natCast_mul]
    refine Ev.step (fun q => by simp only [culletlaw16_ShapeBack.l1]; rw [w64 (n := (K : Int) + M) (by omega) (by omega), if_neg (by omega), e, w64 (n := ((K * L : Nat) : Int)) (by omega) (by omega), w64 (n := ((K * L : Nat) : Int) + 1) (by omega) (by omega)]) (Ev.bind (join_ev _ _ _ _ _ (by rw [rowsS_length]; omega) (by omega)) ?_)
    rw [back_join B _ (back_take B) (by rw [rowsS_length]; omega), if_pos (.inr (by omega))]
    exact Ev.now _
  | c + 1, j, hj, hk => by
    have km := B.km
    have ih := back_l1 c (j + 1) (by omega) (by omega)
    refine Ev.step (fun q => ?_) (back_l2 B j hk (by omega) ih L 0 (by omega))
    simp only [culletlaw16_ShapeBack.l1]
    rw [w64 (n := (K : Int) + M) (by omega) (by omega), if_pos (by omega)]; rfl
theorem back_l0 : ∀ (c i : Nat), i + c = K * L → d.length ≤ i → Ev (fun q => culletlaw16_ShapeBack.l0 q f (K : Int) (M : Int) (L : Int) (rowsS K L 0 (K + M) d) (cpy (K * L) d) (i : Int)) true
  | 0, i, hi, hd => by
    have kl := back_kl B
    have e : (K : Int) * (L : Int) = ((K * L : Nat) : Int) := by rw [Int.natCast_mul]
    refine Ev.step (fun q => ?_) (back_l1 B M K (by omega) (by omega))
    simp only [culletlaw16_ShapeBack.l0]
    rw [e, w64 (n := ((K * L : Nat) : Int)) (by omega) (by omega), if_neg (by omega)]
  | c + 1, i, hi, hd => by
    have kl := back_kl B
    have e : (K : Int) * (L : Int) = ((K * L : Nat) : Int) := by rw [Int.natCast_mul]
    refine Ev.step (fun q => ?_) (back_l0 c (i + 1) (by omega) (by omega))
    simp only [culletlaw16_ShapeBack.l0]
    rw [e, w64 (n := ((K * L : Nat) : Int)) (by omega) (by omega), if_pos (by omega), if_pos (by omega), if_pos (by rw [cpy_length]; omega), if_pos (rd_cpy _ _ _ hd), w64 (by omega) (by omega)]; rfl
theorem back_j0 : Ev (fun q => culletlaw16_ShapeBack.j0 q d f (K : Int) (M : Int) (L : Int) (rowsS K L 0 (K + M) d) (((rowsS K L 0 (K + M) d).length : Int) != wrap64 ((K : Int) + (M : Int)))) true := by
  have km := B.km
  have kl := back_kl B
  have tot := back_flat B
  have dl := B.dl
  have e : (K : Int) * (L : Int) = ((K * L : Nat) : Int) := by rw [Int.natCast_mul]
  have hne : (((rowsS K L 0 (K + M) d).length : Int) != wrap64 ((K : Int) + (M : Int))) = false := by rw [rowsS_length, w64 (by omega) (by omega)]; simp
  rw [hne]
  refine Ev.step (fun q => by simp only [culletlaw16_ShapeBack.j0]; rw [if_neg (by decide)]) (Ev.bind (join_ev _ _ _ _ _ (by rw [rowsS_length]; omega) (by omega)) ?_)
  rw [back_join B _ (back_take B) (by rw [rowsS_length]; omega), if_neg (by omega), Int.toNat_natCast, cpy_take _ _ dl, hne]
  simp only [if_true]
  refine Ev.bind (sameBytes_ev d (by omega)) ?_
  simp only [if_true]
  have hlen := rowsS_length K L (K + M) 0 d
  have htl := rowsS_length K L K 0 d
  refine Ev.step (fun q => by simp only [culletlaw16_ShapeBack.j1]; rw [if_neg (by decide), if_pos (by omega), if_pos (by omega), e, w64 (n := ((K * L : Nat) : Int)) (by omega) (by omega), Int.toNat_natCast, back_take B]) (Ev.bind (join_ev _ _ _ _ _ (by omega) (by have := take_flat_le (rowsS K L 0 (K + M) d) K; rw [back_take B] at this; omega)) ?_)
  rw [back_join B _ (by rw [List.take_of_length_le (by omega)]) (by omega), if_neg (by omega), Int.toNat_natCast, List.take_of_length_le (by rw [cpy_length]; omega)]
  simp only [if_true]
  refine Ev.step (fun q => by simp only [culletlaw16_ShapeBack.j2]; rw [if_neg (by rw [cpy_length]; simp)]) (back_l0 B (K * L - d.length) d.length (by omega) (Nat.le_refl _))
end
theorem ShapeBack (a0_0 a0_1 a0_2 : Int) (d : List Int) (w0 : (Lit.int .i64 a0_0).wf = true) (w1 : (Lit.int .i64 a0_1).wf = true) (w2 : (Lit.int .i64 a0_2).wf = true) (h : OkL d) :
    ∃ k, culletlaw16_ShapeBack.f k a0_0 a0_1 a0_2 d = some true := by
  have hd := h.1
  refine Ev.rounds ?_
  refine ev_bind (g := fun n => culletlaw16_awake.f n) (fun n => by unfold culletlaw16_ShapeBack.f; rfl) awake_ev ?_
  simp only [if_true]
  have hg : Ev (fun k => culletlaw16_great.f k 0 a0_0 a0_1 a0_2 0 ([] : List (List Int)) ([] : List (List Int)) d) (if (lenE a0_0 a0_1 a0_2 d.length).2 = 0 then (if (lenE a0_0 a0_1 a0_2 d.length).1 > 1048576 / (a0_1 + a0_2) then decide ((lenE a0_0 a0_1 a0_2 d.length).1 ≤ 67108864 / (a0_1 + a0_2)) else false) else false) := by
    unfold culletlaw16_great.f
    simp only [if_neg (show ¬ (0 : Int) = 9 by decide)]
    refine Ev.bind (refLength_ev a0_0 a0_1 a0_2 d.length) (ev_const fun q => ?_)
    by_cases hp : par a0_0 a0_1 a0_2 = 0
    · obtain ⟨h1, h2, h3, h4, h5, h6, h7⟩ := par_ok hp
      have q1 : (67108864 : Int) / (a0_1 + a0_2) ≤ 67108864 := Int.ediv_le_self _ (by omega)
      have q2 : (0 : Int) ≤ 67108864 / (a0_1 + a0_2) := Int.ediv_nonneg (by omega) (by omega)
      have q3 : (1048576 : Int) / (a0_1 + a0_2) ≤ 1048576 := Int.ediv_le_self _ (by omega)
      have q4 : (0 : Int) ≤ 1048576 / (a0_1 + a0_2) := Int.ediv_nonneg (by omega) (by omega)
      rw [w64 (n := a0_1 + a0_2) (by omega) (by omega), if_neg (show ¬ a0_1 + a0_2 = 0 by omega), Int.tdiv_eq_ediv_of_nonneg (by omega), Int.tdiv_eq_ediv_of_nonneg (by omega), w64 (n := (67108864 : Int) / (a0_1 + a0_2)) (by omega) (by omega), w64 (n := (1048576 : Int) / (a0_1 + a0_2)) (by omega) (by omega), ite_some, ite_some]
    · have : (lenE a0_0 a0_1 a0_2 d.length).2 = par a0_0 a0_1 a0_2 := by unfold lenE; rw [if_neg hp]
      rw [this, if_neg hp, if_neg hp]
  refine Ev.bind hg ?_
  generalize hb : (if (lenE a0_0 a0_1 a0_2 d.length).2 = 0 then (if (lenE a0_0 a0_1 a0_2 d.length).1 > 1048576 / (a0_1 + a0_2) then decide ((lenE a0_0 a0_1 a0_2 d.length).1 ≤ 67108864 / (a0_1 + a0_2)) else false) else false) = b
  cases b
  · simp only [Bool.false_eq_true, if_false, Option.bind_some, List.nil_append, List.length_nil, Nat.zero_add, if_pos (show d.length < 140737488355328 by omega)]
    refine Ev.bind (length_ev a0_0 a0_1 a0_2 d.length) (Ev.bind (split_ev a0_0 a0_1 a0_2 d) ?_)
    unfold splitV lenE
    by_cases hp : par a0_0 a0_1 a0_2 = 0
    · obtain ⟨h1, h2, h3, h4, h5, h6, h7⟩ := par_ok hp
      simp only [if_pos hp]
      by_cases ha : (d.length : Int) < 1
      · simp only [if_pos ha]; exact ev_const fun q => by rw [if_neg (by decide), if_pos trivial]; rfl
      · by_cases hbb : 1099511627776 < (d.length : Int)
        · simp only [if_neg ha, if_pos hbb]; exact ev_const fun q => by rw [if_neg (by decide), if_pos trivial]; rfl
        · obtain ⟨l1, l2, l3, l4, l5, l6⟩ := len_facts (f := a0_0) (k := a0_1) (n := d.length) (by omega) (by omega) (by omega) (by omega)
          have q1 : (67108864 : Int) / (a0_1 + a0_2) ≤ 67108864 := Int.ediv_le_self _ (by omega)
          have q2 : (0 : Int) ≤ 67108864 / (a0_1 + a0_2) := Int.ediv_nonneg (by omega) (by omega)
          simp only [if_neg ha, if_neg hbb, if_true, w64 (n := a0_1 + a0_2) (by omega) (by omega), if_neg (show ¬ a0_1 + a0_2 = 0 by omega), Int.tdiv_eq_ediv_of_nonneg (show (0 : Int) ≤ 67108864 by omega), w64 (n := (67108864 : Int) / (a0_1 + a0_2)) (by omega) (by omega)]
          by_cases hc : len a0_0 a0_1 d.length > 67108864 / (a0_1 + a0_2)
          · simp only [if_pos hc, if_true]; exact ev_const fun q => rfl
          · simp only [if_neg hc]
            have hmul : (a0_1 + a0_2) * len a0_0 a0_1 d.length ≤ 67108864 := by
              have : len a0_0 a0_1 d.length * (a0_1 + a0_2) ≤ 67108864 := (Int.le_ediv_iff_mul_le (by omega)).1 (by omega)
              rwa [Int.mul_comm]
            obtain ⟨K, rfl⟩ := Int.eq_ofNat_of_zero_le (show 0 ≤ a0_1 by omega)
            obtain ⟨M, rfl⟩ := Int.eq_ofNat_of_zero_le (show 0 ≤ a0_2 by omega)
            generalize hL : len a0_0 (K : Int) d.length = L at *
            obtain ⟨L, rfl⟩ := Int.eq_ofNat_of_zero_le (show 0 ≤ L by omega)
            have e1 : (K : Int) * (L : Int) = ((K * L : Nat) : Int) := by rw [Int.natCast_mul]
            have e2 : ((K : Int) + (M : Int)) * (L : Int) = (((K + M) * L : Nat) : Int) := by simp
            have B : Back a0_0 K M L d := ⟨hp, by omega, by omega, by omega, by omega, by omega, by omega, fun ho => by have := (l5 ho.1).1; omega⟩
            have e : ((K : Int) + (M : Int)).toNat = K + M := by omega
            rw [e, Int.toNat_natCast, Int.toNat_natCast]
            have hwl := back_flat B
            refine Ev.bind (whole_ev _ _ _ _ (by rw [rowsS_length]; omega)) ?_
            rw [back_whole B]
            simp only [if_true]
            have := back_j0 B
            rwa [w64 (by omega) (by omega)] at this
    · simp only [if_neg hp, if_true]; exact ev_const fun q => rfl
  · simp only [if_true]; exact Ev.now _
end Go.Proofs.Ytcbjabnnokjnpaa.Pure
