/- Split and Join: the program's and the document's. -/
import Derived.Test.YtcbjabnnokjnpaaPureTab
import Derived.Test.YtcbjabnnokjnpaaPAx0
import Derived.Test.YtcbjabnnokjnpaaPAx10
import Derived.Test.YtcbjabnnokjnpaaPAx11
import Derived.Test.YtcbjabnnokjnpaaPAx12
import Derived.Test.YtcbjabnnokjnpaaPAx3
import Derived.Test.YtcbjabnnokjnpaaPAx4
import Derived.Test.YtcbjabnnokjnpaaPAx6
set_option linter.unusedVariables false
namespace Go.Proofs.Ytcbjabnnokjnpaa.Pure
open Go.RowKit Go.Proofs.Ytcbjabnnokjnpaa.PA Go.Proofs.YtcbjabnnokjnpaaW.PrintWords Go.Proofs.YtcbjabnnokjnpaaW.PrintLast Go.Proofs.YtcbjabnnokjnpaaW.PrintMore

theorem cpy_eq (n : Nat) (d : List Int) : cpy n d = d.take n ++ List.replicate (n - d.length) 0 := by unfold cpy; rw [List.drop_replicate]
theorem cpy_length (n : Nat) (d : List Int) : (cpy n d).length = n := by rw [cpy_eq]; simp; omega
theorem cpy_add (a b : Nat) (d : List Int) : cpy a d ++ cpy b (d.drop a) = cpy (a + b) d := by
  rw [cpy_eq, cpy_eq, cpy_eq]
  by_cases h : a ≤ d.length
  · rw [show a - d.length = 0 by omega, List.replicate_zero, List.append_nil, ← List.append_assoc, List.take_add, List.length_drop, show b - (d.length - a) = a + b - d.length by omega]
  · rw [List.take_of_length_le (by omega), List.drop_of_length_le (by omega), List.take_nil, List.nil_append, List.length_nil, List.take_of_length_le (by omega), List.append_assoc, List.replicate_append_replicate, show a - d.length + (b - 0) = a + b - d.length by omega]
/-- The rows from the j-th on, c of them. -/
def rowsS (k l : Nat) : Nat → Nat → List Int → List (List Int)
  | _, 0, _ => []
  | j, c + 1, d => if j < k then cpy l d :: rowsS k l (j + 1) c (d.drop l) else List.replicate l 0 :: rowsS k l (j + 1) c d
theorem rowsS_length (k l : Nat) : ∀ (c j : Nat) (d : List Int), (rowsS k l j c d).length = c
  | 0, j, d => rfl
  | c + 1, j, d => by simp only [rowsS]; split <;> simp [rowsS_length k l c]
theorem rowsS_mem (k l : Nat) : ∀ (c j : Nat) (d : List Int), ∀ s ∈ rowsS k l j c d, s.length = l
  | 0, j, d, s, h => by cases h
  | c + 1, j, d, s, h => by
    simp only [rowsS] at h
    split at h
    · rcases List.mem_cons.1 h with rfl | h
      · exact cpy_length _ _
      · exact rowsS_mem k l c _ _ s h
    · rcases List.mem_cons.1 h with rfl | h
      · simp
      · exact rowsS_mem k l c _ _ s h
theorem rowsS_ge (k l : Nat) : ∀ (c j : Nat) (d : List Int), k ≤ j → rowsS k l j c d = List.replicate c (List.replicate l 0)
  | 0, j, d, h => rfl
  | c + 1, j, d, h => by simp only [rowsS]; rw [if_neg (by omega), rowsS_ge k l c _ _ (by omega), List.replicate_succ]
theorem rowsS_flat (k l : Nat) : ∀ (c j : Nat) (d : List Int), j + c ≤ k → (rowsS k l j c d).flatten = cpy (c * l) d
  | 0, j, d, h => by simp [rowsS, cpy_eq]
  | c + 1, j, d, h => by
    simp only [rowsS]
    rw [if_pos (by omega), List.flatten_cons, rowsS_flat k l c _ _ (by omega), cpy_add, Nat.succ_mul, Nat.add_comm]
theorem rowsS_split (k l : Nat) : ∀ (c j e : Nat) (d : List Int), j + c = k → rowsS k l j (c + e) d = rowsS k l j c d ++ List.replicate e (List.replicate l 0)
  | 0, j, e, d, h => by rw [Nat.zero_add, rowsS_ge _ _ _ _ _ (by omega)]; rfl
  | c + 1, j, e, d, h => by
    rw [show c + 1 + e = (c + e) + 1 by omega]
    simp only [rowsS]
    rw [if_pos (show j < k by omega), if_pos (show j < k by omega), rowsS_split k l c _ e _ (by omega)]; rfl

theorem split_ev0 (k l : Nat) (hl : l ≤ 281474976710656) (tot : Nat) (ht : tot ≤ 140737488355328) : ∀ (c : Nat) (pre : List (List Int)) (d : List Int), pre.length + c = tot →
    Ev (fun q => shape_Split.l0 q (k : Int) d (l : Int) (pre ++ List.replicate c []) (tot : Int) (pre.length : Int)) (pre ++ rowsS k l pre.length c d, 0)
  | 0, pre, d, h => by
    refine Ev.step (f := fun _ => some (pre, 0)) (fun q => ?_) (ev_eq (Ev.now _) (by simp [rowsS]))
    simp only [shape_Split.l0]
    rw [if_neg (by omega)]; simp
  | c + 1, pre, d, h => by
    have e1 : ∀ s : List Int, (pre ++ List.replicate (c + 1) []).set (pre.length : Int).toNat s = (pre ++ [s]) ++ List.replicate c [] := fun s => by
      rw [List.replicate_succ, Int.toNat_natCast, set_mid, app_mid]
    have n1 : ∀ s : List Int, wrap64 ((pre.length : Int) + 1) = ((pre ++ [s]).length : Int) := fun s => next_i pre s (by omega)
    simp only [rowsS]
    by_cases hk : pre.length < k
    · have ih := split_ev0 k l hl tot ht c (pre ++ [cpy l d]) (d.drop l) (by simp; omega)
      rw [if_pos hk]
      refine Ev.step (fun q => ?_) (ev_eq ih (by simp))
      simp only [shape_Split.l0]
      rw [if_pos (by omega), if_pos (by omega), if_pos (by simpa using hl), if_pos (by omega), if_pos (by simp; omega), if_pos (by omega), n1 (cpy l d), Int.toNat_natCast l, e1 (cpy l d)]
    · have ih := split_ev0 k l hl tot ht c (pre ++ [List.replicate l 0]) d (by simp; omega)
      rw [if_neg hk]
      refine Ev.step (fun q => ?_) (ev_eq ih (by simp))
      simp only [shape_Split.l0]
      rw [if_pos (by omega), if_pos (by omega), if_pos (by simpa using hl), if_pos (by omega), if_pos (by simp; omega), if_neg (by omega), n1 (List.replicate l 0), Int.toNat_natCast l, e1 (List.replicate l 0)]
def splitV (f k m : Int) (d : List Int) : List (List Int) × Int :=
  if par f k m = 0 then (if (d.length : Int) < 1 then ([], 163) else if 1099511627776 < (d.length : Int) then ([], 5) else if len f k d.length > 67108864 / (k + m) then ([], 5) else (rowsS k.toNat (len f k d.length).toNat 0 (k + m).toNat d, 0)) else ([], par f k m)
theorem len_pos {f k n : Int} (h1 : 1 ≤ k) (h2 : k ≤ 65536) (h3 : 1 ≤ n) (h4 : n ≤ 1099511627776) : 1 ≤ len f k n := (len_facts h1 h2 h3 h4).1
theorem split_ev (f k m : Int) (d : List Int) : Ev (fun q => shape_Split.f q f k m d) (splitV f k m d) := by
  refine ev_bind (g := fun q => shape_Length.f q f k m (d.length : Int)) (fun q => by unfold shape_Split.f; rfl) (length_ev f k m d.length) ?_
  unfold splitV lenE
  by_cases hp : par f k m = 0
  · obtain ⟨h1, h2, h3, h4, h5, h6, h7⟩ := par_ok hp
    simp only [if_pos hp]
    by_cases ha : (d.length : Int) < 1
    · simp only [if_pos ha]; exact ev_const fun q => by rw [if_neg (by decide)]
    · by_cases hb : 1099511627776 < (d.length : Int)
      · simp only [if_neg ha, if_pos hb]; exact ev_const fun q => by rw [if_neg (by decide)]
      · obtain ⟨l1, l2, l3, l4, l5, l6⟩ := len_facts (f := f) (k := k) (n := d.length) (by omega) (by omega) (by omega) (by omega)
        simp only [if_neg ha, if_neg hb, if_true, w64 (n := k + m) (by omega) (by omega), if_neg (show ¬ k + m = 0 by omega), Int.tdiv_eq_ediv_of_nonneg (show (0 : Int) ≤ 67108864 by omega)]
        have hq : (67108864 : Int) / (k + m) ≤ 67108864 := Int.ediv_le_self _ (by omega)
        have hq0 : (0 : Int) ≤ 67108864 / (k + m) := Int.ediv_nonneg (by omega) (by omega)
        simp only [w64 (n := (67108864 : Int) / (k + m)) (by omega) (by omega)]
        by_cases hc : len f k d.length > 67108864 / (k + m)
        · simp only [if_pos hc]; exact Ev.now _
        · simp only [if_neg hc, if_pos (show (0 : Int) ≤ k + m by omega), if_pos (show (k + m).toNat ≤ 11728124029610 by omega), Option.bind_some, List.length_replicate]
          have := split_ev0 k.toNat (len f k d.length).toNat (by omega) (k + m).toNat (by omega) (k + m).toNat [] d (by simp)
          rw [Int.toNat_of_nonneg (show 0 ≤ k by omega), Int.toNat_of_nonneg (show 0 ≤ len f k d.length by omega)] at this
          simpa using this
  · simp only [if_neg hp]; exact Ev.now _

/-! the document's Split -/
theorem take_succ' (d : List Int) (i : Nat) (h : i < d.length) : d.take (i + 1) = d.take i ++ [rd d (i : Int)] := by
  rw [List.take_add_one]; unfold rd; simp [List.getElem?_eq_getElem h, List.getD_eq_getElem?_getD]
theorem refSplit_ev1 (k m l : Nat) (D : List Int) (hD : D.length ≤ 1099511627776) (j : Nat) (hj : j * l + l ≤ 4294967296) (pre post : List (List Int)) (hpre : pre.length = j) :
    ∀ (c i : Nat), i + c = l → (j < k → i ≤ D.length - j * l) → (¬ j < k → i = 0) → ∀ {r : List (List Int) × Int},
    Ev (fun q => culletref16_Split.l0 q (k : Int) (m : Int) D (l : Int) (pre ++ (if j < k then cpy l (D.drop (j * l)) else List.replicate l 0) :: post) (wrap64 ((j : Int) + 1))) r →
    Ev (fun q => culletref16_Split.l1 q (k : Int) (m : Int) D (l : Int) (pre ++ ((D.drop (j * l)).take i ++ List.replicate c 0) :: post) (j : Int) (i : Int)) r
  | 0, i, hi, hb, hz, r, h => by
    refine Ev.step (fun q => ?_) h
    simp only [culletref16_Split.l1]
    rw [if_neg (by omega)]
    congr 1
    by_cases hk : j < k
    · rw [if_pos hk, cpy_eq, show l = i by omega, List.length_drop, show i - (D.length - j * i) = 0 by have := hb hk; rw [show l = i by omega] at this; omega]
    · rw [if_neg hk, show i = 0 by exact hz hk, show l = 0 by have := hz hk; omega]; simp
  | c + 1, i, hi, hb, hz, r, h => by
    have hw1 : wrap64 ((j : Int) * (l : Int)) = ((j * l : Nat) : Int) := by rw [← Int.natCast_mul]; exact w64 (by omega) (by omega)
    have hw2 : wrap64 (((j * l : Nat) : Int) + (i : Int)) = ((j * l + i : Nat) : Int) := by rw [w64 (by omega) (by omega)]; omega
    by_cases hk : j < k
    · by_cases hd : j * l + i < D.length
      · have ih := refSplit_ev1 k m l D hD j hj pre post hpre c (i + 1) (by omega) (fun _ => by omega) (fun h => absurd hk h) h
        refine Ev.step (fun q => ?_) ih
        simp only [culletref16_Split.l1]
        have hrow : rd_L2 (pre ++ ((D.drop (j * l)).take i ++ List.replicate (c + 1) 0) :: post) (j : Int) = (D.drop (j * l)).take i ++ List.replicate (c + 1) 0 := by rw [← hpre]; exact rdL2_mid _ _ _
        have hlen : ((D.drop (j * l)).take i).length = i := by rw [List.length_take, List.length_drop]; omega
        rw [if_pos (by omega), if_pos (by omega), hw1, hw2, if_pos (by omega), if_pos (by omega), if_pos (by simp; omega), if_pos (by omega), if_pos (by omega), hrow, if_pos (by simp only [List.length_append, hlen, List.length_replicate]; omega)]
        have e2 : ((D.drop (j * l)).take i ++ List.replicate (c + 1) 0).set (i : Int).toNat (rd D ((j * l + i : Nat) : Int)) = (D.drop (j * l)).take (i + 1) ++ List.replicate c 0 := by
          rw [List.replicate_succ, Int.toNat_natCast]
          have := set_mid 0 (rd D ((j * l + i : Nat) : Int)) (List.replicate c 0) ((D.drop (j * l)).take i)
          rw [hlen] at this
          rw [this, take_succ' _ _ (by rw [List.length_drop]; omega), List.append_assoc]
          congr 2
          unfold rd; rw [Int.toNat_natCast, Int.toNat_natCast, List.getD_eq_getElem?_getD, List.getD_eq_getElem?_getD, List.getElem?_drop]
        rw [e2, Int.toNat_natCast, w64 (by omega) (by omega), show ((i : Int) + 1) = ((i + 1 : Nat) : Int) by omega]
        have := set_mid ((D.drop (j * l)).take i ++ List.replicate (c + 1) 0) ((D.drop (j * l)).take (i + 1) ++ List.replicate c 0) post pre
        rw [hpre] at this
        rw [this]
      · refine Ev.step (fun q => ?_) h
        simp only [culletref16_Split.l1]
        rw [if_pos (by omega), if_pos (by omega), hw1, hw2, if_neg (by omega)]
        congr 1
        rw [if_pos hk, cpy_eq, List.take_of_length_le (by rw [List.length_drop]; omega), List.take_of_length_le (by rw [List.length_drop]; omega), List.length_drop]
        have := hb hk
        rw [show l - (D.length - j * l) = c + 1 by omega]
    · refine Ev.step (fun q => ?_) h
      simp only [culletref16_Split.l1]
      rw [if_pos (by omega), if_neg (by omega)]
      congr 1
      rw [if_neg hk, hz hk, show l = c + 1 by have := hz hk; omega]; simp
theorem rowsS_step (k l j c : Nat) (D : List Int) : rowsS k l j (c + 1) (D.drop (j * l)) = (if j < k then cpy l (D.drop (j * l)) else List.replicate l 0) :: rowsS k l (j + 1) c (D.drop ((j + 1) * l)) := by
  simp only [rowsS]
  by_cases hk : j < k
  · rw [if_pos hk, if_pos hk, List.drop_drop, show j * l + l = (j + 1) * l by rw [Nat.succ_mul]]
  · rw [if_neg hk, if_neg hk, rowsS_ge _ _ _ _ _ (by omega), rowsS_ge _ _ _ _ _ (by omega)]
theorem refSplit_ev0 (k m l : Nat) (D : List Int) (hD : D.length ≤ 1099511627776) (ht : k + m ≤ 65536) (hl : (k + m) * l ≤ 4294967296) : ∀ (c : Nat) (pre : List (List Int)), pre.length + c = k + m →
    Ev (fun q => culletref16_Split.l0 q (k : Int) (m : Int) D (l : Int) (pre ++ List.replicate c []) (pre.length : Int)) (pre ++ rowsS k l pre.length c (D.drop (pre.length * l)), 0)
  | 0, pre, h => by
    refine Ev.step (f := fun _ => some (pre, 0)) (fun q => ?_) (ev_eq (Ev.now _) (by simp [rowsS]))
    simp only [culletref16_Split.l0]
    rw [w64 (by omega) (by omega), if_neg (by omega)]; simp
  | c + 1, pre, h => by
    have hjl : pre.length * l + l ≤ 4294967296 := by
      have : (pre.length + 1) * l ≤ (k + m) * l := Nat.mul_le_mul_right _ (by omega)
      rw [Nat.succ_mul] at this; omega
    have ih := refSplit_ev0 k m l D hD ht hl c (pre ++ [if pre.length < k then cpy l (D.drop (pre.length * l)) else List.replicate l 0]) (by simp; omega)
    have h1 := refSplit_ev1 k m l D hD pre.length hjl pre (List.replicate c []) rfl l 0 (by omega) (fun _ => Nat.zero_le _) (fun _ => rfl) (r := (pre ++ rowsS k l pre.length (c + 1) (D.drop (pre.length * l)), 0)) (by
      rw [next_i pre (if pre.length < k then cpy l (D.drop (pre.length * l)) else List.replicate l 0) (by omega), app_mid]
      refine ev_eq ih ?_
      rw [rowsS_step, List.length_append, List.length_singleton]; simp)
    refine Ev.step (fun q => ?_) h1
    simp only [culletref16_Split.l0]
    have hl2 : l ≤ 4294967296 := by omega
    rw [w64 (by omega) (by omega), if_pos (by omega), if_pos (by omega), if_pos (by omega), if_pos (by omega), if_pos (by simp; omega), Int.toNat_natCast, Int.toNat_natCast]
    congr 1
    rw [List.replicate_succ, set_mid]; simp
theorem refSplit_ev (f k m : Int) (d : List Int) : Ev (fun q => culletref16_Split.f q f k m d) (splitV f k m d) := by
  refine ev_bind (g := fun q => culletref16_Length.f q f k m (d.length : Int)) (fun q => by unfold culletref16_Split.f; rfl) (refLength_ev f k m d.length) ?_
  unfold splitV lenE
  by_cases hp : par f k m = 0
  · obtain ⟨h1, h2, h3, h4, h5, h6, h7⟩ := par_ok hp
    simp only [if_pos hp]
    by_cases ha : (d.length : Int) < 1
    · simp only [if_pos ha]; exact ev_const fun q => by rw [if_neg (by decide)]
    · by_cases hb : 1099511627776 < (d.length : Int)
      · simp only [if_neg ha, if_pos hb]; exact ev_const fun q => by rw [if_neg (by decide)]
      · obtain ⟨l1, l2, l3, l4, l5, l6⟩ := len_facts (f := f) (k := k) (n := d.length) (by omega) (by omega) (by omega) (by omega)
        simp only [if_neg ha, if_neg hb, if_true, w64 (n := k + m) (by omega) (by omega), if_neg (show ¬ k + m = 0 by omega), Int.tdiv_eq_ediv_of_nonneg (show (0 : Int) ≤ 67108864 by omega)]
        have hq : (67108864 : Int) / (k + m) ≤ 67108864 := Int.ediv_le_self _ (by omega)
        have hq0 : (0 : Int) ≤ 67108864 / (k + m) := Int.ediv_nonneg (by omega) (by omega)
        simp only [w64 (n := (67108864 : Int) / (k + m)) (by omega) (by omega)]
        by_cases hc : len f k d.length > 67108864 / (k + m)
        · simp only [if_pos hc]; exact Ev.now _
        · simp only [if_neg hc, if_pos (show (0 : Int) ≤ k + m by omega), if_pos (show (k + m).toNat ≤ 11728124029610 by omega)]
          have hmul : (k + m) * len f k d.length ≤ 67108864 := by
            have : len f k d.length * (k + m) ≤ 67108864 := (Int.le_ediv_iff_mul_le (by omega)).1 (by omega)
            rwa [Int.mul_comm]
          obtain ⟨K, rfl⟩ := Int.eq_ofNat_of_zero_le (show 0 ≤ k by omega)
          obtain ⟨M, rfl⟩ := Int.eq_ofNat_of_zero_le (show 0 ≤ m by omega)
          generalize hL : len f (K : Int) d.length = L at *
          obtain ⟨L, rfl⟩ := Int.eq_ofNat_of_zero_le (show 0 ≤ L by omega)
          have := refSplit_ev0 K M L d (by omega) (by omega) (by have h : ((K : Int) + M) * L = (((K + M) * L : Nat) : Int) := by simp
                                                                 omega) (K + M) [] (by simp)
          have e : ((K : Int) + (M : Int)).toNat = K + M := by omega
          rw [e]
          simpa using this
  · simp only [if_neg hp]; exact Ev.now _

/-! Join -/
theorem evens_len {L : Nat} {l : List (List Int)} (he : evens L l = true) (hn : emp 0 l = []) : ∀ s ∈ l, s.length = L := by
  intro s hs
  have h1 := (emp_nil l 0).1 hn s hs
  simp only [evens, List.all_eq_true, Bool.or_eq_true, beq_iff_eq] at he
  exact (he s hs).resolve_left h1
theorem flat_length {L : Nat} : ∀ {l : List (List Int)}, (∀ s ∈ l, s.length = L) → l.flatten.length = l.length * L
  | [], h => by simp
  | s :: t, h => by
    rw [List.flatten_cons, List.length_append, flat_length (fun x hx => h x (List.mem_cons_of_mem _ hx)), h s List.mem_cons_self, List.length_cons, Nat.succ_mul, Nat.add_comm]
theorem flat_get {L : Nat} (hL : 0 < L) : ∀ (l : List (List Int)), (∀ s ∈ l, s.length = L) → ∀ i, i < l.length * L → l.flatten.getD i 0 = (l.getD (i / L) []).getD (i % L) 0
  | [], h, i, hi => by simp at hi
  | s :: t, h, i, hi => by
    have hs := h s List.mem_cons_self
    by_cases hlt : i < L
    · rw [Nat.div_eq_of_lt hlt, Nat.mod_eq_of_lt hlt, List.flatten_cons]
      simp [List.getD_eq_getElem?_getD, List.getElem?_append_left (show i < s.length by omega)]
    · have hi' : i - L < t.length * L := by rw [List.length_cons, Nat.succ_mul] at hi; omega
      have ih := flat_get hL t (fun x hx => h x (List.mem_cons_of_mem _ hx)) (i - L) hi'
      have hd : i / L = (i - L) / L + 1 := by rw [Nat.div_eq_sub_div hL (by omega)]
      have hm : i % L = (i - L) % L := Nat.mod_eq_sub_mod (by omega)
      rw [hd, hm, List.getD_cons_succ, ← ih, List.flatten_cons, List.getD_eq_getElem?_getD, List.getD_eq_getElem?_getD, List.getElem?_append_right (by omega), hs]
theorem join_ev0 (size : Nat) (hz : size ≤ 4294967296) : ∀ (rest pre : List (List Int)) (acc : List Int), pre.length + rest.length ≤ 8796093022208 → acc.length ≤ size →
    (∀ s ∈ rest, s.length ≤ 4294967296) →
    Ev (fun q => shape_Join.l0 q (size : Int) acc (pre ++ rest) ((pre ++ rest).length : Int) (pre.length : Int)) (acc ++ rest.flatten.take (size - acc.length), 0)
  | [], pre, acc, hn, ha, hs => by
    refine Ev.step (f := fun _ => some (acc, 0)) (fun q => ?_) (ev_eq (Ev.now _) (by simp))
    simp [shape_Join.l0]
  | s :: rest, pre, acc, hn, ha, hs => by
    have hn' : pre.length + rest.length + 1 ≤ 8796093022208 := by simpa [Nat.add_assoc] using hn
    have hsl := hs s List.mem_cons_self
    have hc : (pre.length : Int) < ((pre ++ s :: rest).length : Int) := by simp; omega
    have ih := join_ev0 size hz rest (pre ++ [s]) (acc ++ s.take (size - acc.length)) (by simp; omega) (by rw [List.length_append, List.length_take]; omega) (fun x hx => hs x (List.mem_cons_of_mem _ hx))
    simp only [← app_mid] at ih
    have hm : mn (s.length : Int) (wrap64 ((size : Int) - (acc.length : Int))) = ((min s.length (size - acc.length) : Nat) : Int) := by
      rw [w64 (by omega) (by omega)]; unfold mn; split <;> omega
    have ht : s.take (min s.length (size - acc.length)) = s.take (size - acc.length) := by
      rcases Nat.le_total s.length (size - acc.length) with h | h
      · rw [Nat.min_eq_left h, List.take_length, List.take_of_length_le h]
      · rw [Nat.min_eq_right h]
    refine Ev.step (fun q => ?_) (ev_eq ih ?_)
    · simp only [shape_Join.l0]
      rw [if_pos hc, if_pos (by omega), if_pos hc, rdL2_mid, hm, if_pos (by omega), if_pos (by omega), next_i _ s (by omega), Int.toNat_natCast, ht, if_pos (by rw [List.length_take]; omega)]
    · congr 1
      rw [List.append_assoc, List.flatten_cons, List.take_append, List.length_append, List.length_take]
      congr 3
      omega
def joinV (f k m : Int) (l : List (List Int)) (size : Int) : List Int × Int :=
  if par f k m = 0 then (if (l.length : Int) < k then ([], 160) else (if emp 0 (l.take k.toNat) = [] then (if evens (first (l.take k.toNat)) (l.take k.toNat) = true then (if f = 2 ∧ (first (l.take k.toNat) : Int) % 2 = 1 then ([], 8) else (if size < 0 ∨ size > k * (first (l.take k.toNat) : Int) then ([], 164) else ((l.take k.toNat).flatten.take size.toNat, 0))) else ([], 162)) else ([], 161))) else ([], par f k m)
theorem take_flat_le (l : List (List Int)) (n : Nat) : (l.take n).flatten.length ≤ l.flatten.length := by
  have h : l.flatten = (l.take n).flatten ++ (l.drop n).flatten := by rw [← List.flatten_append, List.take_append_drop]
  rw [h, List.length_append]; omega
theorem first_mem {l : List (List Int)} (h : emp 0 l = []) (hl : l ≠ []) : ∃ s ∈ l, s.length = first l := by
  cases l with
  | nil => exact absurd rfl hl
  | cons s t =>
    refine ⟨s, List.mem_cons_self, ?_⟩
    have := (emp_nil (s :: t) 0).1 h s List.mem_cons_self
    simp only [first]; rw [if_neg this]
structure JoinAt (k : Int) (l d : List (List Int)) : Prop where
  len : (d.length : Int) = k
  ne : d ≠ []
  pos : 0 < first d
  mem : ∀ s ∈ d, s.length = first d
  flat : (d.flatten.length : Int) = k * (first d : Int)
  le : d.flatten.length ≤ 134217728
theorem joinAt {f k m : Int} (hp : par f k m = 0) (l : List (List Int)) (hk : ¬ (l.length : Int) < k) (he : emp 0 (l.take k.toNat) = []) (hv : evens (first (l.take k.toNat)) (l.take k.toNat) = true) (hb : l.flatten.length ≤ 134217728) : JoinAt k l (l.take k.toNat) := by
  obtain ⟨h1, h2, h3, h4, h5, h6, h7⟩ := par_ok hp
  have hlen : ((l.take k.toNat).length : Int) = k := by rw [List.length_take]; omega
  have hne : l.take k.toNat ≠ [] := fun h => by rw [h] at hlen; simp at hlen; omega
  have hm := evens_len hv he
  refine ⟨hlen, hne, by have := first_ne he hne; omega, hm, ?_, Nat.le_trans (take_flat_le l _) hb⟩
  rw [flat_length hm, Int.natCast_mul, hlen]
theorem first_le {l : List (List Int)} (h : emp 0 l = []) (hl : l ≠ []) : first l ≤ l.flatten.length := by
  cases l with
  | nil => exact absurd rfl hl
  | cons s t =>
    have := (emp_nil (s :: t) 0).1 h s List.mem_cons_self
    simp only [first]; rw [if_neg this, List.flatten_cons, List.length_append]; omega
theorem join_ev (f k m : Int) (l : List (List Int)) (size : Int) (hn : l.length ≤ 8796093022208) (hb : l.flatten.length ≤ 134217728) : Ev (fun q => shape_Join.f q f k m l size) (joinV f k m l size) := by
  refine ev_bind (g := fun q => shape_Params.f q f k m) (fun q => by unfold shape_Join.f; rfl) (params_ev f k m) ?_
  unfold joinV
  by_cases hp : par f k m = 0
  · obtain ⟨h1, h2, h3, h4, h5, h6, h7⟩ := par_ok hp
    simp only [if_pos hp]
    by_cases hk : (l.length : Int) < k
    · simp only [if_pos hk]; exact Ev.now _
    · simp only [if_neg hk, if_pos (show 0 ≤ k by omega), if_pos (show k ≤ (l.length : Int) by omega)]
      refine Ev.bind (lengths_ev (l.take k.toNat) (by rw [List.length_take]; omega)) ?_
      by_cases he : emp 0 (l.take k.toNat) = []
      · rw [if_pos he]
        simp only [if_neg (show ¬ ((emp 0 (l.take k.toNat)).length : Int) > 0 by rw [emp_pos]; simpa using he)]
        by_cases hv : evens (first (l.take k.toNat)) (l.take k.toNat) = true
        · have J := joinAt hp l hk he hv hb
          have hle := J.le
          have hfl := J.flat
          simp only [if_pos hv, odd_val _ _ (show (0 : Int) ≤ (first (l.take k.toNat) : Int) by omega), Option.bind_some, decide_eq_true_eq]
          by_cases ho : f = 2 ∧ (first (l.take k.toNat) : Int) % 2 = 1
          · simp only [if_pos ho]; exact Ev.now _
          · simp only [if_neg ho, w64 (n := k * (first (l.take k.toNat) : Int)) (by omega) (by omega)]
            by_cases hs : size < 0
            · simp only [if_pos hs, if_pos (show size < 0 ∨ size > k * (first (l.take k.toNat) : Int) from .inl hs)]; exact Ev.now _
            · by_cases hg : size > k * (first (l.take k.toNat) : Int)
              · simp only [if_neg hs, if_pos hg, if_pos (show size < 0 ∨ size > k * (first (l.take k.toNat) : Int) from .inr hg)]; exact Ev.now _
              · simp only [if_neg hs, if_neg hg, if_neg (show ¬ (size < 0 ∨ size > k * (first (l.take k.toNat) : Int)) by omega), if_pos (show 0 ≤ size by omega), if_pos (show size.toNat ≤ 281474976710656 by omega)]
                have := join_ev0 size.toNat (by omega) (l.take k.toNat) [] [] (by rw [List.length_take, List.length_nil]; omega) (by simp) (fun s hs => by rw [J.mem s hs]; have := first_le he J.ne; omega)
                rw [Int.toNat_of_nonneg (show 0 ≤ size by omega)] at this
                simpa using this
        · simp only [if_neg hv]; exact Ev.now _
      · rw [if_neg he]
        simp only [if_pos ((emp_pos (l.take k.toNat)).2 he)]
        exact Ev.now _
  · simp only [if_neg hp]; exact Ev.now _
theorem refJoin_ev0 (d : List (List Int)) (L : Nat) (hL : 0 < L) (hm : ∀ s ∈ d, s.length = L) (hb : d.flatten.length ≤ 134217728) (size : Nat) (hz : size ≤ d.length * L) : ∀ (c i : Nat), i + c = size →
    Ev (fun q => culletref16_Join.l0 q (size : Int) d (L : Int) (d.flatten.take i ++ List.replicate c 0) (i : Int)) (d.flatten.take size, 0)
  | 0, i, h => by
    refine Ev.step (f := fun _ => some (d.flatten.take size, 0)) (fun q => ?_) (Ev.now _)
    simp only [culletref16_Join.l0]
    rw [if_neg (by omega), show size = i by omega]; simp
  | c + 1, i, h => by
    have hfl := flat_length hm
    have ih := refJoin_ev0 d L hL hm hb size hz c (i + 1) (by omega)
    refine Ev.step (fun q => ?_) ih
    have hq1 : i / L < d.length := (Nat.div_lt_iff_lt_mul hL).2 (by omega)
    have hq2 : i % L < L := Nat.mod_lt _ hL
    have hlb : i / L ≤ i := Nat.div_le_self _ _
    have hq0 : (0 : Int) ≤ ((i / L : Nat) : Int) := Int.natCast_nonneg _
    have hm0 : (0 : Int) ≤ ((i % L : Nat) : Int) := Int.natCast_nonneg _
    simp only [culletref16_Join.l0]
    have e1 : Int.tdiv (i : Int) (L : Int) = ((i / L : Nat) : Int) := by rw [Int.tdiv_eq_ediv_of_nonneg (by omega)]; rfl
    have e2 : Int.tmod (i : Int) (L : Int) = ((i % L : Nat) : Int) := by rw [Int.tmod_eq_emod_of_nonneg (by omega)]; rfl
    have hrow : (rd_L2 d ((i / L : Nat) : Int)).length = L := by
      unfold rd_L2
      rw [Int.toNat_natCast, List.getD_eq_getElem?_getD, List.getElem?_eq_getElem hq1]
      exact hm _ (List.getElem_mem hq1)
    rw [if_pos (by omega), if_neg (by omega), e1, e2, w64 (by omega) (by omega), if_pos (by omega), if_pos (by omega), if_pos (by omega), if_pos (by omega), if_pos (by omega)]
    have hlen : (d.flatten.take i).length = i := by rw [List.length_take]; omega
    rw [if_pos (by rw [List.length_append, hlen, List.length_replicate]; omega), w64 (by omega) (by omega), show ((i : Int) + 1) = ((i + 1 : Nat) : Int) by omega]
    congr 1
    rw [List.replicate_succ, Int.toNat_natCast]
    have := set_mid 0 (rd (rd_L2 d ((i / L : Nat) : Int)) ((i % L : Nat) : Int)) (List.replicate c 0) (d.flatten.take i)
    rw [hlen] at this
    rw [this, take_succ' _ _ (by omega), List.append_assoc]
    congr 2
    unfold rd rd_L2
    rw [Int.toNat_natCast, Int.toNat_natCast, Int.toNat_natCast, flat_get hL d hm i (by omega)]
theorem refJoin_ev (f k m : Int) (l : List (List Int)) (size : Int) (hn : l.length ≤ 8796093022208) (hb : l.flatten.length ≤ 134217728) : Ev (fun q => culletref16_Join.f q f k m l size) (joinV f k m l size) := by
  refine ev_bind (g := fun q => culletref16_Params.f q f k m) (fun q => by unfold culletref16_Join.f; rfl) (refParams_ev f k m) ?_
  unfold joinV
  by_cases hp : par f k m = 0
  · obtain ⟨h1, h2, h3, h4, h5, h6, h7⟩ := par_ok hp
    simp only [if_pos hp]
    by_cases hk : (l.length : Int) < k
    · simp only [if_pos hk]; exact Ev.now _
    · simp only [if_neg hk, if_pos (show 0 ≤ k by omega), if_pos (show k ≤ (l.length : Int) by omega), Option.bind_some]
      have hn2 : (l.take k.toNat).length ≤ 8796093022208 := by rw [List.length_take]; omega
      refine Ev.bind (empties_ev (l.take k.toNat) hn2) ?_
      by_cases he : emp 0 (l.take k.toNat) = []
      · rw [if_pos he]
        simp only [if_neg (show ¬ ((emp 0 (l.take k.toNat)).length : Int) > 0 by rw [emp_pos]; simpa using he)]
        refine Ev.bind (unlike_ev (l.take k.toNat) false hn2 (.inr he)) ?_
        by_cases hv : evens (first (l.take k.toNat)) (l.take k.toNat) = true
        · have J := joinAt hp l hk he hv hb
          have hle := J.le
          have hfl := J.flat
          rw [if_pos hv]
          simp only [hv, Bool.not_true, Bool.false_eq_true, if_false]
          refine Ev.bind (longest_ev (l.take k.toNat) hn2 hv) ?_
          refine Ev.congr (f := fun q => culletref16_Join.j0 q k size (l.take k.toNat) (first (l.take k.toNat) : Int) (decide (f = 2 ∧ (first (l.take k.toNat) : Int) % 2 = 1))) (fun q => ?_) ?_
          · rw [Int.tmod_eq_emod_of_nonneg (by omega)]
            by_cases a : f = 2
            · rw [if_pos a]; congr 1; simp [a]; rfl
            · rw [if_neg a]; congr 1; simp [a]
          · by_cases ho : f = 2 ∧ (first (l.take k.toNat) : Int) % 2 = 1
            · rw [if_pos ho]
              exact Ev.step (f := fun _ => some ([], 8)) (fun q => by simp only [culletref16_Join.j0]; rw [if_pos (by simpa using ho)]) (Ev.now _)
            · rw [if_neg ho]
              refine Ev.step (f := fun q => culletref16_Join.j1 q size (l.take k.toNat) (first (l.take k.toNat) : Int) (decide (size < 0 ∨ size > k * (first (l.take k.toNat) : Int)))) (fun q => ?_) ?_
              · simp only [culletref16_Join.j0]
                rw [if_neg (by simpa using ho), w64 (n := k * (first (l.take k.toNat) : Int)) (by omega) (by omega)]
                by_cases hs : size < 0
                · rw [if_pos hs]; congr 1; simp [hs]
                · rw [if_neg hs]; congr 1; simp [hs]
              · by_cases hs : size < 0 ∨ size > k * (first (l.take k.toNat) : Int)
                · rw [if_pos hs]
                  exact Ev.step (f := fun _ => some ([], 164)) (fun q => by simp only [culletref16_Join.j1]; rw [if_pos (by simpa using hs)]) (Ev.now _)
                · rw [if_neg hs]
                  refine Ev.step (fun q => by simp only [culletref16_Join.j1]; rw [if_neg (by simpa using hs), if_pos (show 0 ≤ size by omega), if_pos (show size.toNat ≤ 281474976710656 by omega)]) ?_
                  have hfn := flat_length J.mem
                  have := refJoin_ev0 (l.take k.toNat) (first (l.take k.toNat)) J.pos J.mem hle size.toNat (by omega) size.toNat 0 (by omega)
                  rw [Int.toNat_of_nonneg (show 0 ≤ size by omega)] at this
                  simpa using this
        · rw [if_neg hv]
          simp only [Bool.eq_false_iff.2 hv, Bool.not_false, if_true]
          exact Ev.now _
      · rw [if_neg he]
        simp only [if_pos ((emp_pos (l.take k.toNat)).2 he)]
        exact Ev.now _
  · simp only [if_neg hp]; exact Ev.now _

theorem splitV_ok (f k m : Int) (d : List Int) : (splitV f k m d).1.length ≤ 65536 ∧ ∀ s ∈ (splitV f k m d).1, s.length ≤ 67108864 := by
  unfold splitV
  split
  · rename_i hp
    obtain ⟨h1, h2, h3, h4, h5, h6, h7⟩ := par_ok hp
    split
    · simp
    · split
      · simp
      · split
        · simp
        · rename_i h
          have hq : (67108864 : Int) / (k + m) ≤ 67108864 := Int.ediv_le_self _ (by omega)
          refine ⟨by simp only [rowsS_length]; omega, fun s hs => ?_⟩
          rw [rowsS_mem _ _ _ _ _ s hs]; omega
  · simp
theorem joinV_le (f k m : Int) (l : List (List Int)) (size : Int) : (joinV f k m l size).1.length ≤ l.flatten.length := by
  unfold joinV
  repeat' split
  all_goals first | (simp; done) | skip
  have := take_flat_le l k.toNat
  rw [List.length_take]; omega
theorem moves_ok (o : S38) (h5 : OkR o.f5) (h7 : OkL o.f7) (w2 : (Lit.int .i64 o.f2).wf = true) (w3 : (Lit.int .i64 o.f3).wf = true) (hk : 8 ≤ o.f0 ∧ o.f0 ≤ 9) : movesOk o := by
  unfold movesOk
  obtain ⟨b5, e5, hb5⟩ := heavy_ev o.f5 h5
  have l5 := h5.1
  have s5 : ∀ s ∈ o.f5, s.length < 140737488355328 := fun s hs => by have := (h5.2 s hs).1; omega
  by_cases h9 : o.f0 = 9
  · have g : Ev (fun k => culletlaw16_great.f k o.f0 o.f1 o.f2 o.f3 o.f4 o.f5 o.f6 o.f7) b5 := by
      unfold culletlaw16_great.f
      simp only [if_pos h9]
      exact Ev.bind e5 (Ev.now _)
    refine ev_bind (fun k => by unfold culletlaw16_moves.f; rfl) g ?_
    cases b5
    · have hb := hb5 rfl
      simp only [Bool.false_eq_true, if_false, if_neg (show ¬ o.f0 = 8 by omega)]
      refine Ev.bind (twin_ev o.f5 (by omega) s5) (Ev.bind (join_ev _ _ _ _ _ (by omega) (by omega)) (Ev.bind (refJoin_ev _ _ _ _ _ (by omega) (by omega)) ?_))
      simp only [if_true]
      refine Ev.bind (sameBytes_ev _ (by have := joinV_le o.f1 o.f2 o.f3 o.f5 o.f4; omega)) ?_
      simp only [if_true]
      exact Ev.bind (same_ev o.f5 (by omega) (fun s hs => by have := s5 s hs; omega)) (Ev.now _)
    · simp only [if_true]; exact Ev.now _
  · have g : ∃ b, Ev (fun k => culletlaw16_great.f k o.f0 o.f1 o.f2 o.f3 o.f4 o.f5 o.f6 o.f7) b := by
      unfold culletlaw16_great.f
      simp only [if_neg h9]
      have hl := refLength_ev o.f1 o.f2 o.f3 (o.f7.length : Int)
      by_cases hp : par o.f1 o.f2 o.f3 = 0
      · obtain ⟨h1, h2, h3, h4, h5, h6, h7⟩ := par_ok hp
        have hne : ¬ wrap64 (o.f2 + o.f3) = 0 := by rw [w64 (by omega) (by omega)]; omega
        simp only [if_neg hne]
        refine ⟨if (lenE o.f1 o.f2 o.f3 o.f7.length).2 = 0 then (if (lenE o.f1 o.f2 o.f3 o.f7.length).1 > (wrap64 (Int.tdiv (1048576 : Int) (wrap64 (o.f2 + o.f3)))) then (decide ((lenE o.f1 o.f2 o.f3 o.f7.length).1 ≤ (wrap64 (Int.tdiv (67108864 : Int) (wrap64 (o.f2 + o.f3)))))) else false) else false, Ev.bind hl (ev_const fun q => ?_)⟩
        simp only [ite_some]
      · refine ⟨false, Ev.bind hl (ev_const fun q => ?_)⟩
        unfold lenE
        simp only [if_neg hp]
    obtain ⟨b, g⟩ := g
    refine ev_bind (fun k => by unfold culletlaw16_moves.f; rfl) g ?_
    cases b
    · have h7l := h7.1
      simp only [Bool.false_eq_true, if_false, if_pos (show o.f0 = 8 by omega), Option.bind_some, List.nil_append, List.length_nil, Nat.zero_add, if_pos (show o.f7.length < 140737488355328 by omega)]
      have ok := splitV_ok o.f1 o.f2 o.f3 o.f7
      refine Ev.bind (split_ev _ _ _ _) (Ev.bind (refSplit_ev _ _ _ _) ?_)
      simp only [if_true]
      refine Ev.bind (same_ev _ (by omega) (fun s hs => by have := ok.2 s hs; omega)) ?_
      simp only [if_true]
      exact Ev.bind (sameBytes_ev o.f7 (by omega)) (Ev.now _)
    · simp only [if_true]; exact Ev.now _
theorem ShapeMoves (l : List S38) (hl : OkOps l) : ∃ k, culletlaw16_ShapeMoves.f k l = some true := by
  refine Ev.rounds ?_
  unfold culletlaw16_ShapeMoves.f
  refine Ev.bind (all_ev 8 9 l hl fun o ho h1 h2 => ?_) (Ev.now _)
  unfold stepOk
  rw [if_neg (by omega), if_neg (by omega)]
  obtain ⟨w0, w1, w2, w3, w4, w5, w6, w7⟩ := hl.2 o ho
  exact moves_ok o w5 w7 w2 w3 ⟨h1, h2⟩
end Go.Proofs.Ytcbjabnnokjnpaa.Pure
