/- What the shape laws without the document need of the lists. Taken by a program out of PureNum, PureTab, PureMov. -/
import Derived.Test.YtcbjabnnokjnpaaPureB
import Derived.Test.YtcbjabnnokjnpaaWAll
import Derived.Test.YtcbjabnnokjnpaaPAx0
import Derived.Test.YtcbjabnnokjnpaaPAx3
import Derived.Test.YtcbjabnnokjnpaaPAx4
set_option linter.unusedVariables false
namespace Go.Proofs.Ytcbjabnnokjnpaa.Pure
open Go.RowKit Go.Proofs.Ytcbjabnnokjnpaa.PA Go.Proofs.YtcbjabnnokjnpaaW.PrintWords Go.Proofs.YtcbjabnnokjnpaaW.PrintLast Go.Proofs.YtcbjabnnokjnpaaW.PrintMore Go.Proofs.YtcbjabnnokjnpaaW.Open
def OkL (l : List Int) : Prop := l.length * 1 ≤ 140737488351232 ∧ ∀ x ∈ l, (Lit.int .u8 x).wf = true
theorem opens_int : Opens Try.prog (Kd.int .i64) 3 (fun n => (Lit.int .i64 n).wf = true) := Opens.int Try.underlying3
theorem opens_bytes : Opens Try.prog (Kd.slice 5 (Kd.int .u8)) 27 OkL := Opens.slice (B := 1) Try.underlying27 (by kernel_rfl) (by kernel_rfl) (Opens.int Try.underlying5)
theorem sameBytes_ev0 : ∀ (rest pre : List Int), pre.length + rest.length ≤ 140737488355328 → Ev (fun k => culletlaw16_sameBytes.l0 k (pre ++ rest) (pre ++ rest) (pre.length : Int)) true
  | [], pre, hn => Ev.step (f := fun _ => some true) (fun k => by simp [culletlaw16_sameBytes.l0]) (Ev.now _)
  | s :: rest, pre, hn => by
    have hn' : pre.length + rest.length + 1 ≤ 140737488355328 := by simpa [Nat.add_assoc] using hn
    have ih := sameBytes_ev0 rest (pre ++ [s]) (by simp; omega)
    simp only [← app_mid] at ih
    have hc : (pre.length : Int) < ((pre ++ s :: rest).length : Int) := by simp; omega
    refine Ev.step (fun k => ?_) ih
    simp only [culletlaw16_sameBytes.l0]
    rw [if_pos hc, if_pos (by omega), if_pos hc, if_pos trivial, next_i _ s (by omega)]
theorem sameBytes_ev (l : List Int) (h : l.length ≤ 140737488355328) : Ev (fun k => culletlaw16_sameBytes.f k l l) true := by
  have := sameBytes_ev0 l [] (by simpa using h)
  unfold culletlaw16_sameBytes.f
  simpa using this
theorem set_mid {α : Type} (a b : α) (rest : List α) : ∀ pre : List α, (pre ++ a :: rest).set pre.length b = pre ++ b :: rest
  | [] => rfl
  | x :: pre => by simp [set_mid a b rest pre]
theorem odd_val (f L : Int) (h : 0 ≤ L) : shape_odd.f f L = some (decide (f = 2 ∧ L % 2 = 1)) := by
  unfold shape_odd.f
  rw [Int.tmod_eq_emod_of_nonneg h]
  by_cases hf : f = 2
  · rw [if_pos hf]; congr 1; simp [hf]; rfl
  · rw [if_neg hf]; simp [hf]
theorem counted_ev (f k m : Int) (l : List (List Int)) : Ev (fun q => shape_counted.f q f k m l) (if par f k m = 0 then (if (l.length : Int) = k + m then 0 else 160) else par f k m) := by
  refine ev_bind (g := fun q => shape_Params.f q f k m) (fun q => by unfold shape_counted.f; rfl) (params_ev f k m) (ev_const fun q => ?_)
  by_cases hp : par f k m = 0
  · obtain ⟨h1, h2, h3, h4, h5, h6, h7⟩ := par_ok hp
    rw [if_pos hp, if_pos hp, w64 (by omega) (by omega), ite_some]
  · rw [if_neg hp, if_neg hp]
def wholeV (f k m : Int) (l : List (List Int)) : Int × Int :=
  if par f k m = 0 then (if (l.length : Int) = k + m then (if emp 0 l = [] then (if evens (first l) l = true then (if f = 2 ∧ (first l : Int) % 2 = 1 then (0, 8) else ((first l : Int), 0)) else (0, 162)) else (0, 161)) else (0, 160)) else (0, par f k m)
theorem emp_pos (l : List (List Int)) : ((emp 0 l).length : Int) > 0 ↔ ¬ emp 0 l = [] := by
  cases emp 0 l <;> simp <;> omega
theorem whole_ev (f k m : Int) (l : List (List Int)) (h : l.length ≤ 8796093022208) : Ev (fun q => shape_Whole.f q f k m l) (wholeV f k m l) := by
  refine ev_bind (g := fun q => shape_counted.f q f k m l) (fun q => by unfold shape_Whole.f; rfl) (counted_ev f k m l) ?_
  unfold wholeV
  by_cases hp : par f k m = 0
  · simp only [if_pos hp]
    by_cases hl : (l.length : Int) = k + m
    · simp only [if_pos hl, if_true]
      refine Ev.bind (lengths_ev l h) (ev_const fun q => ?_)
      rw [odd_val _ _ (by omega)]
      by_cases he : emp 0 l = []
      · rw [if_neg (by rw [emp_pos]; simpa using he), if_pos he]
        by_cases hv : evens (first l) l = true
        · rw [if_pos hv, if_pos hv]
          simp only [Option.bind_some, decide_eq_true_eq, ite_some]
        · rw [if_neg hv, if_neg hv]
      · rw [if_pos ((emp_pos l).2 he), if_neg he]
    · simp only [if_neg hl]
      exact ev_const fun q => by rw [if_neg (by decide)]
  · simp only [if_neg hp]; exact Ev.now _
theorem first_ne {l : List (List Int)} (h : emp 0 l = []) (hl : l ≠ []) : first l ≠ 0 := by
  cases l with
  | nil => exact absurd rfl hl
  | cons s t =>
    have := (emp_nil (s :: t) 0).1 h s List.mem_cons_self
    simp only [first]; rw [if_neg this]; exact this
theorem cpy_eq (n : Nat) (d : List Int) : cpy n d = d.take n ++ List.replicate (n - d.length) 0 := by unfold cpy; rw [List.drop_replicate]
theorem cpy_length (n : Nat) (d : List Int) : (cpy n d).length = n := by rw [cpy_eq]; simp; omega
theorem cpy_add (a b : Nat) (d : List Int) : cpy a d ++ cpy b (d.drop a) = cpy (a + b) d := by
  rw [cpy_eq, cpy_eq, cpy_eq]
  by_cases h : a ≤ d.length
  · rw [show a - d.length = 0 by omega, List.replicate_zero, List.append_nil, ← List.append_assoc, List.take_add, List.length_drop, show b - (d.length - a) = a + b - d.length by omega]
  · rw [List.take_of_length_le (by omega), List.drop_of_length_le (by omega), List.take_nil, List.nil_append, List.length_nil, List.take_of_length_le (by omega), List.append_assoc, List.replicate_append_replicate, show a - d.length + (b - 0) = a + b - d.length by omega]
/-- The rows from the j-th on, c of them. -/
def rowsS (k l : Nat) : Nat → Nat → List Int → List (List Int)
  | _, 0, _ => []
  | j, c + 1, d => if j < k then cpy l d :: rowsS k l (j + 1) c (d.drop l) else List.replicate l 0 :: rowsS k l (j + 1) c d
theorem rowsS_length (k l : Nat) : ∀ (c j : Nat) (d : List Int), (rowsS k l j c d).length = c
  | 0, j, d => rfl
  | c + 1, j, d => by simp only [rowsS]; split <;> simp [rowsS_length k l c]
theorem rowsS_mem (k l : Nat) : ∀ (c j : Nat) (d : List Int), ∀ s ∈ rowsS k l j c d, s.length = l
  | 0, j, d, s, h => by cases h
  | c + 1, j, d, s, h => by
    simp only [rowsS] at h
    split at h
    · rcases List.mem_cons.1 h with rfl | h
      · exact cpy_length _ _
      · exact rowsS_mem k l c _ _ s h
    · rcases List.mem_cons.1 h with rfl | h
      · simp
      · exact rowsS_mem k l c _ _ s h
theorem rowsS_ge (k l : Nat) : ∀ (c j : Nat) (d : List Int), k ≤ j → rowsS k l j c d = List.replicate c (List.replicate l 0)
  | 0, j, d, h => rfl
  | c + 1, j, d, h => by simp only [rowsS]; rw [if_neg (by omega), rowsS_ge k l c _ _ (by omega), List.replicate_succ]
theorem rowsS_flat (k l : Nat) : ∀ (c j : Nat) (d : List Int), j + c ≤ k → (rowsS k l j c d).flatten = cpy (c * l) d
  | 0, j, d, h => by simp [rowsS, cpy_eq]
  | c + 1, j, d, h => by
    simp only [rowsS]
    rw [if_pos (by omega), List.flatten_cons, rowsS_flat k l c _ _ (by omega), cpy_add, Nat.succ_mul, Nat.add_comm]
theorem rowsS_split (k l : Nat) : ∀ (c j e : Nat) (d : List Int), j + c = k → rowsS k l j (c + e) d = rowsS k l j c d ++ List.replicate e (List.replicate l 0)
  | 0, j, e, d, h => by rw [Nat.zero_add, rowsS_ge _ _ _ _ _ (by omega)]; rfl
  | c + 1, j, e, d, h => by
    rw [show c + 1 + e = (c + e) + 1 by omega]
    simp only [rowsS]
    rw [if_pos (show j < k by omega), if_pos (show j < k by omega), rowsS_split k l c _ e _ (by omega)]; rfl
theorem split_ev0 (k l : Nat) (hl : l ≤ 281474976710656) (tot : Nat) (ht : tot ≤ 140737488355328) : ∀ (c : Nat) (pre : List (List Int)) (d : List Int), pre.length + c = tot →
    Ev (fun q => shape_Split.l0 q (k : Int) d (l : Int) (pre ++ List.replicate c []) (tot : Int) (pre.length : Int)) (pre ++ rowsS k l pre.length c d, 0)
  | 0, pre, d, h => by
    refine Ev.step (f := fun _ => some (pre, 0)) (fun q => ?_) (ev_eq (Ev.now _) (by simp [rowsS]))
    simp only [shape_Split.l0]
    rw [if_neg (by omega)]; simp
  | c + 1, pre, d, h => by
    have e1 : ∀ s : List Int, (pre ++ List.replicate (c + 1) []).set (pre.length : Int).toNat s = (pre ++ [s]) ++ List.replicate c [] := fun s => by
      rw [List.replicate_succ, Int.toNat_natCast, set_mid, app_mid]
    have n1 : ∀ s : List Int, wrap64 ((pre.length : Int) + 1) = ((pre ++ [s]).length : Int) := fun s => next_i pre s (by omega)
    simp only [rowsS]
    by_cases hk : pre.length < k
    · have ih := split_ev0 k l hl tot ht c (pre ++ [cpy l d]) (d.drop l) (by simp; omega)
      rw [if_pos hk]
      refine Ev.step (fun q => ?_) (ev_eq ih (by simp))
      simp only [shape_Split.l0]
      rw [if_pos (by omega), if_pos (by omega), if_pos (by simpa using hl), if_pos (by omega), if_pos (by simp; omega), if_pos (by omega), n1 (cpy l d), Int.toNat_natCast l, e1 (cpy l d)]
    · have ih := split_ev0 k l hl tot ht c (pre ++ [List.replicate l 0]) d (by simp; omega)
      rw [if_neg hk]
      refine Ev.step (fun q => ?_) (ev_eq ih (by simp))
      simp only [shape_Split.l0]
      rw [if_pos (by omega), if_pos (by omega), if_pos (by simpa using hl), if_pos (by omega), if_pos (by simp; omega), if_neg (by omega), n1 (List.replicate l 0), Int.toNat_natCast l, e1 (List.replicate l 0)]
def splitV (f k m : Int) (d : List Int) : List (List Int) × Int :=
  if par f k m = 0 then (if (d.length : Int) < 1 then ([], 163) else if 1099511627776 < (d.length : Int) then ([], 5) else if len f k d.length > 67108864 / (k + m) then ([], 5) else (rowsS k.toNat (len f k d.length).toNat 0 (k + m).toNat d, 0)) else ([], par f k m)
theorem len_pos {f k n : Int} (h1 : 1 ≤ k) (h2 : k ≤ 65536) (h3 : 1 ≤ n) (h4 : n ≤ 1099511627776) : 1 ≤ len f k n := (len_facts h1 h2 h3 h4).1
theorem split_ev (f k m : Int) (d : List Int) : Ev (fun q => shape_Split.f q f k m d) (splitV f k m d) := by
  refine ev_bind (g := fun q => shape_Length.f q f k m (d.length : Int)) (fun q => by unfold shape_Split.f; rfl) (length_ev f k m d.length) ?_
  unfold splitV lenE
  by_cases hp : par f k m = 0
  · obtain ⟨h1, h2, h3, h4, h5, h6, h7⟩ := par_ok hp
    simp only [if_pos hp]
    by_cases ha : (d.length : Int) < 1
    · simp only [if_pos ha]; exact ev_const fun q => by rw [if_neg (by decide)]
    · by_cases hb : 1099511627776 < (d.length : Int)
      · simp only [if_neg ha, if_pos hb]; exact ev_const fun q => by rw [if_neg (by decide)]
      · obtain ⟨l1, l2, l3, l4, l5, l6⟩ := len_facts (f := f) (k := k) (n := d.length) (by omega) (by omega) (by omega) (by omega)
        simp only [if_neg ha, if_neg hb, if_true, w64 (n := k + m) (by omega) (by omega), if_neg (show ¬ k + m = 0 by omega), Int.tdiv_eq_ediv_of_nonneg (show (0 : Int) ≤ 67108864 by omega)]
        have hq : (67108864 : Int) / (k + m) ≤ 67108864 := Int.ediv_le_self _ (by omega)
        have hq0 : (0 : Int) ≤ 67108864 / (k + m) := Int.ediv_nonneg (by omega) (by omega)
        simp only [w64 (n := (67108864 : Int) / (k + m)) (by omega) (by omega)]
        by_cases hc : len f k d.length > 67108864 / (k + m)
        · simp only [if_pos hc]; exact Ev.now _
        · simp only [if_neg hc, if_pos (show (0 : Int) ≤ k + m by omega), if_pos (show (k + m).toNat ≤ 11728124029610 by omega), Option.bind_some, List.length_replicate]
          have := split_ev0 k.toNat (len f k d.length).toNat (by omega) (k + m).toNat (by omega) (k + m).toNat [] d (by simp)
          rw [Int.toNat_of_nonneg (show 0 ≤ k by omega), Int.toNat_of_nonneg (show 0 ≤ len f k d.length by omega)] at this
          simpa using this
  · simp only [if_neg hp]; exact Ev.now _
theorem evens_len {L : Nat} {l : List (List Int)} (he : evens L l = true) (hn : emp 0 l = []) : ∀ s ∈ l, s.length = L := by
  intro s hs
  have h1 := (emp_nil l 0).1 hn s hs
  simp only [evens, List.all_eq_true, Bool.or_eq_true, beq_iff_eq] at he
  exact (he s hs).resolve_left h1
theorem flat_length {L : Nat} : ∀ {l : List (List Int)}, (∀ s ∈ l, s.length = L) → l.flatten.length = l.length * L
  | [], h => by simp
  | s :: t, h => by
    rw [List.flatten_cons, List.length_append, flat_length (fun x hx => h x (List.mem_cons_of_mem _ hx)), h s List.mem_cons_self, List.length_cons, Nat.succ_mul, Nat.add_comm]
theorem join_ev0 (size : Nat) (hz : size ≤ 4294967296) : ∀ (rest pre : List (List Int)) (acc : List Int), pre.length + rest.length ≤ 8796093022208 → acc.length ≤ size →
    (∀ s ∈ rest, s.length ≤ 4294967296) →
    Ev (fun q => shape_Join.l0 q (size : Int) acc (pre ++ rest) ((pre ++ rest).length : Int) (pre.length : Int)) (acc ++ rest.flatten.take (size - acc.length), 0)
  | [], pre, acc, hn, ha, hs => by
    refine Ev.step (f := fun _ => some (acc, 0)) (fun q => ?_) (ev_eq (Ev.now _) (by simp))
    simp [shape_Join.l0]
  | s :: rest, pre, acc, hn, ha, hs => by
    have hn' : pre.length + rest.length + 1 ≤ 8796093022208 := by simpa [Nat.add_assoc] using hn
    have hsl := hs s List.mem_cons_self
    have hc : (pre.length : Int) < ((pre ++ s :: rest).length : Int) := by simp; omega
    have ih := join_ev0 size hz rest (pre ++ [s]) (acc ++ s.take (size - acc.length)) (by simp; omega) (by rw [List.length_append, List.length_take]; omega) (fun x hx => hs x (List.mem_cons_of_mem _ hx))
    simp only [← app_mid] at ih
    have hm : mn (s.length : Int) (wrap64 ((size : Int) - (acc.length : Int))) = ((min s.length (size - acc.length) : Nat) : Int) := by
      rw [w64 (by omega) (by omega)]; unfold mn; split <;> omega
    have ht : s.take (min s.length (size - acc.length)) = s.take (size - acc.length) := by
      rcases Nat.le_total s.length (size - acc.length) with h | h
      · rw [Nat.min_eq_left h, List.take_length, List.take_of_length_le h]
      · rw [Nat.min_eq_right h]
    refine Ev.step (fun q => ?_) (ev_eq ih ?_)
    · simp only [shape_Join.l0]
      rw [if_pos hc, if_pos (by omega), if_pos hc, rdL2_mid, hm, if_pos (by omega), if_pos (by omega), next_i _ s (by omega), Int.toNat_natCast, ht, if_pos (by rw [List.length_take]; omega)]
    · congr 1
      rw [List.append_assoc, List.flatten_cons, List.take_append, List.length_append, List.length_take]
      congr 3
      omega
def joinV (f k m : Int) (l : List (List Int)) (size : Int) : List Int × Int :=
  if par f k m = 0 then (if (l.length : Int) < k then ([], 160) else (if emp 0 (l.take k.toNat) = [] then (if evens (first (l.take k.toNat)) (l.take k.toNat) = true then (if f = 2 ∧ (first (l.take k.toNat) : Int) % 2 = 1 then ([], 8) else (if size < 0 ∨ size > k * (first (l.take k.toNat) : Int) then ([], 164) else ((l.take k.toNat).flatten.take size.toNat, 0))) else ([], 162)) else ([], 161))) else ([], par f k m)
theorem take_flat_le (l : List (List Int)) (n : Nat) : (l.take n).flatten.length ≤ l.flatten.length := by
  have h : l.flatten = (l.take n).flatten ++ (l.drop n).flatten := by rw [← List.flatten_append, List.take_append_drop]
  rw [h, List.length_append]; omega
theorem first_mem {l : List (List Int)} (h : emp 0 l = []) (hl : l ≠ []) : ∃ s ∈ l, s.length = first l := by
  cases l with
  | nil => exact absurd rfl hl
  | cons s t =>
    refine ⟨s, List.mem_cons_self, ?_⟩
    have := (emp_nil (s :: t) 0).1 h s List.mem_cons_self
    simp only [first]; rw [if_neg this]
structure JoinAt (k : Int) (l d : List (List Int)) : Prop where
  len : (d.length : Int) = k
  ne : d ≠ []
  pos : 0 < first d
  mem : ∀ s ∈ d, s.length = first d
  flat : (d.flatten.length : Int) = k * (first d : Int)
  le : d.flatten.length ≤ 134217728
theorem joinAt {f k m : Int} (hp : par f k m = 0) (l : List (List Int)) (hk : ¬ (l.length : Int) < k) (he : emp 0 (l.take k.toNat) = []) (hv : evens (first (l.take k.toNat)) (l.take k.toNat) = true) (hb : l.flatten.length ≤ 134217728) : JoinAt k l (l.take k.toNat) := by
  obtain ⟨h1, h2, h3, h4, h5, h6, h7⟩ := par_ok hp
  have hlen : ((l.take k.toNat).length : Int) = k := by rw [List.length_take]; omega
  have hne : l.take k.toNat ≠ [] := fun h => by rw [h] at hlen; simp at hlen; omega
  have hm := evens_len hv he
  refine ⟨hlen, hne, by have := first_ne he hne; omega, hm, ?_, Nat.le_trans (take_flat_le l _) hb⟩
  rw [flat_length hm, Int.natCast_mul, hlen]
theorem first_le {l : List (List Int)} (h : emp 0 l = []) (hl : l ≠ []) : first l ≤ l.flatten.length := by
  cases l with
  | nil => exact absurd rfl hl
  | cons s t =>
    have := (emp_nil (s :: t) 0).1 h s List.mem_cons_self
    simp only [first]; rw [if_neg this, List.flatten_cons, List.length_append]; omega
theorem join_ev (f k m : Int) (l : List (List Int)) (size : Int) (hn : l.length ≤ 8796093022208) (hb : l.flatten.length ≤ 134217728) : Ev (fun q => shape_Join.f q f k m l size) (joinV f k m l size) := by
  refine ev_bind (g := fun q => shape_Params.f q f k m) (fun q => by unfold shape_Join.f; rfl) (params_ev f k m) ?_
  unfold joinV
  by_cases hp : par f k m = 0
  · obtain ⟨h1, h2, h3, h4, h5, h6, h7⟩ := par_ok hp
    simp only [if_pos hp]
    by_cases hk : (l.length : Int) < k
    · simp only [if_pos hk]; exact Ev.now _
    · simp only [if_neg hk, if_pos (show 0 ≤ k by omega), if_pos (show k ≤ (l.length : Int) by omega)]
      refine Ev.bind (lengths_ev (l.take k.toNat) (by rw [List.length_take]; omega)) ?_
      by_cases he : emp 0 (l.take k.toNat) = []
      · rw [if_pos he]
        simp only [if_neg (show ¬ ((emp 0 (l.take k.toNat)).length : Int) > 0 by rw [emp_pos]; simpa using he)]
        by_cases hv : evens (first (l.take k.toNat)) (l.take k.toNat) = true
        · have J := joinAt hp l hk he hv hb
          have hle := J.le
          have hfl := J.flat
          simp only [if_pos hv, odd_val _ _ (show (0 : Int) ≤ (first (l.take k.toNat) : Int) by omega), Option.bind_some, decide_eq_true_eq]
          by_cases ho : f = 2 ∧ (first (l.take k.toNat) : Int) % 2 = 1
          · simp only [if_pos ho]; exact Ev.now _
          · simp only [if_neg ho, w64 (n := k * (first (l.take k.toNat) : Int)) (by omega) (by omega)]
            by_cases hs : size < 0
            · simp only [if_pos hs, if_pos (show size < 0 ∨ size > k * (first (l.take k.toNat) : Int) from .inl hs)]; exact Ev.now _
            · by_cases hg : size > k * (first (l.take k.toNat) : Int)
              · simp only [if_neg hs, if_pos hg, if_pos (show size < 0 ∨ size > k * (first (l.take k.toNat) : Int) from .inr hg)]; exact Ev.now _
              · simp only [if_neg hs, if_neg hg, if_neg (show ¬ (size < 0 ∨ size > k * (first (l.take k.toNat) : Int)) by omega), if_pos (show 0 ≤ size by omega), if_pos (show size.toNat ≤ 281474976710656 by omega)]
                have := join_ev0 size.toNat (by omega) (l.take k.toNat) [] [] (by rw [List.length_take, List.length_nil]; omega) (by simp) (fun s hs => by rw [J.mem s hs]; have := first_le he J.ne; omega)
                rw [Int.toNat_of_nonneg (show 0 ≤ size by omega)] at this
                simpa using this
        · simp only [if_neg hv]; exact Ev.now _
      · rw [if_neg he]
        simp only [if_pos ((emp_pos (l.take k.toNat)).2 he)]
        exact Ev.now _
  · simp only [if_neg hp]; exact Ev.now _
end Go.Proofs.Ytcbjabnnokjnpaa.Pure
