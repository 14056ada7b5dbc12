/- Whole, Partial, Fresh: the decision table. -/
import Derived.Test.YtcbjabnnokjnpaaPureB
import Derived.Test.YtcbjabnnokjnpaaPureNum
import Derived.Test.YtcbjabnnokjnpaaPAx0
import Derived.Test.YtcbjabnnokjnpaaPAx12
import Derived.Test.YtcbjabnnokjnpaaPAx3
import Derived.Test.YtcbjabnnokjnpaaPAx6
import Derived.Test.YtcbjabnnokjnpaaPAx7
import Derived.Test.YtcbjabnnokjnpaaPAx8
import Derived.Test.YtcbjabnnokjnpaaPAx9
set_option linter.unusedVariables false
namespace Go.Proofs.Ytcbjabnnokjnpaa.Pure
open Go.RowKit Go.Proofs.Ytcbjabnnokjnpaa.PA Go.Proofs.YtcbjabnnokjnpaaW.PrintWords Go.Proofs.YtcbjabnnokjnpaaW.PrintLast Go.Proofs.YtcbjabnnokjnpaaW.PrintMore

theorem sameBytes_ev0 : ∀ (rest pre : List Int), pre.length + rest.length ≤ 140737488355328 → Ev (fun k => culletlaw16_sameBytes.l0 k (pre ++ rest) (pre ++ rest) (pre.length : Int)) true
  | [], pre, hn => Ev.step (f := fun _ => some true) (fun k => by simp [culletlaw16_sameBytes.l0]) (Ev.now _)
  | s :: rest, pre, hn => by
    have hn' : pre.length + rest.length + 1 ≤ 140737488355328 := by simpa [Nat.add_assoc] using hn
    have ih := sameBytes_ev0 rest (pre ++ [s]) (by simp; omega)
    simp only [← app_mid] at ih
    have hc : (pre.length : Int) < ((pre ++ s :: rest).length : Int) := by simp; omega
    refine Ev.step (fun k => ?_) ih
    simp only [culletlaw16_sameBytes.l0]
    rw [if_pos hc, if_pos (by omega), if_pos hc, if_pos trivial, next_i _ s (by omega)]
theorem sameBytes_ev (l : List Int) (h : l.length ≤ 140737488355328) : Ev (fun k => culletlaw16_sameBytes.f k l l) true := by
  have := sameBytes_ev0 l [] (by simpa using h)
  unfold culletlaw16_sameBytes.f
  simpa using this
theorem sameInts_ev0 : ∀ (rest pre : List Int), pre.length + rest.length ≤ 140737488355328 → Ev (fun k => culletlaw16_sameInts.l0 k (pre ++ rest) (pre ++ rest) (pre.length : Int)) true
  | [], pre, hn => Ev.step (f := fun _ => some true) (fun k => by simp [culletlaw16_sameInts.l0]) (Ev.now _)
  | s :: rest, pre, hn => by
    have hn' : pre.length + rest.length + 1 ≤ 140737488355328 := by simpa [Nat.add_assoc] using hn
    have ih := sameInts_ev0 rest (pre ++ [s]) (by simp; omega)
    simp only [← app_mid] at ih
    have hc : (pre.length : Int) < ((pre ++ s :: rest).length : Int) := by simp; omega
    refine Ev.step (fun k => ?_) ih
    simp only [culletlaw16_sameInts.l0]
    rw [if_pos hc, if_pos (by omega), if_pos hc, if_pos trivial, next_i _ s (by omega)]
theorem sameInts_ev (l : List Int) (h : l.length ≤ 140737488355328) : Ev (fun k => culletlaw16_sameInts.f k l l) true := by
  have := sameInts_ev0 l [] (by simpa using h)
  unfold culletlaw16_sameInts.f
  simpa using this
theorem same_ev0 : ∀ (rest pre : List (List Int)), pre.length + rest.length ≤ 140737488355328 → (∀ s ∈ rest, s.length ≤ 140737488355328) → Ev (fun k => culletlaw16_same.l0 k (pre ++ rest) (pre ++ rest) (pre.length : Int)) true
  | [], pre, hn, hs => Ev.step (f := fun _ => some true) (fun k => by simp [culletlaw16_same.l0]) (Ev.now _)
  | s :: rest, pre, hn, hs => by
    have hn' : pre.length + rest.length + 1 ≤ 140737488355328 := by simpa [Nat.add_assoc] using hn
    have ih := same_ev0 rest (pre ++ [s]) (by simp; omega) (fun x hx => hs x (List.mem_cons_of_mem _ hx))
    simp only [← app_mid] at ih
    have hc : (pre.length : Int) < ((pre ++ s :: rest).length : Int) := by simp; omega
    refine Ev.step (fun k => by simp only [culletlaw16_same.l0]; rw [if_pos hc, if_pos (show (0 : Int) ≤ pre.length by omega), if_pos hc, rdL2_mid, next_i _ s (by omega)]) (Ev.bind (sameBytes_ev s (hs s List.mem_cons_self)) ?_)
    simp only [if_true]
    exact ih
theorem same_ev (l : List (List Int)) (h : l.length ≤ 140737488355328) (hs : ∀ s ∈ l, s.length ≤ 140737488355328) : Ev (fun k => culletlaw16_same.f k l l) true := by
  have := same_ev0 l [] (by simpa using h) hs
  unfold culletlaw16_same.f
  simpa using this
theorem set_mid {α : Type} (a b : α) (rest : List α) : ∀ pre : List α, (pre ++ a :: rest).set pre.length b = pre ++ b :: rest
  | [] => rfl
  | x :: pre => by simp [set_mid a b rest pre]
theorem twin_ev0 : ∀ (rest pre : List (List Int)), pre.length + rest.length ≤ 140737488355328 → (∀ s ∈ rest, s.length < 140737488355328) →
    Ev (fun k => culletlaw16_twin.l0 k (pre ++ rest) (pre ++ List.replicate rest.length []) (pre.length : Int)) (pre ++ rest)
  | [], pre, hn, hs => Ev.step (f := fun _ => some (pre ++ [])) (fun k => by simp [culletlaw16_twin.l0]) (Ev.now _)
  | s :: rest, pre, hn, hs => by
    have hn' : pre.length + rest.length + 1 ≤ 140737488355328 := by simpa [Nat.add_assoc] using hn
    have ih := twin_ev0 rest (pre ++ [s]) (by simp; omega) (fun x hx => hs x (List.mem_cons_of_mem _ hx))
    have hsl := hs s List.mem_cons_self
    simp only [← app_mid] at ih
    have hc : (pre.length : Int) < ((pre ++ s :: rest).length : Int) := by simp; omega
    refine Ev.step (fun k => ?_) ih
    simp only [culletlaw16_twin.l0]
    rw [if_pos hc]
    simp only [Option.bind_some, List.nil_append, List.length_nil, Nat.zero_add]
    rw [if_pos (show (0 : Int) ≤ pre.length by omega), rdL2_mid, if_pos hsl, if_pos (by simp; omega), next_i _ s (by omega), List.length_cons, List.replicate_succ, Int.toNat_natCast, set_mid, app_mid pre _ s]
theorem twin_ev (l : List (List Int)) (h : l.length ≤ 11728124029610) (hs : ∀ s ∈ l, s.length < 140737488355328) : Ev (fun k => culletlaw16_twin.f k l) l := by
  have := twin_ev0 l [] (by simp; omega) hs
  unfold culletlaw16_twin.f
  simp only [if_pos (show (0 : Int) ≤ l.length by omega), if_pos (show ((l.length : Int) : Int).toNat ≤ 11728124029610 by simpa using h)]
  simpa using this
theorem heavy_ev0 : ∀ (rest pre : List (List Int)) (n : Int), 0 ≤ n → n ≤ 140737499000000 → pre.length + rest.length ≤ 140737488355328 → (∀ s ∈ rest, s.length < 140737488355328) →
    ∃ b, Ev (fun k => culletlaw16_heavy.l0 k (pre ++ rest) n (pre.length : Int)) b ∧ (b = false → n + (rest.flatten.length : Int) ≤ 4194304)
  | [], pre, n, h0, h1, hn, hs => ⟨_, Ev.step (f := fun _ => some (decide (n > 4194304))) (fun k => by simp [culletlaw16_heavy.l0]) (Ev.now _), fun h => by simp at h ⊢; exact h⟩
  | s :: rest, pre, n, h0, h1, hn, hs => by
    have hn' : pre.length + rest.length + 1 ≤ 140737488355328 := by simpa [Nat.add_assoc] using hn
    have hsl := hs s List.mem_cons_self
    have hc : (pre.length : Int) < ((pre ++ s :: rest).length : Int) := by simp; omega
    by_cases hb : n ≤ 4194304
    · obtain ⟨b, ih, hf⟩ := heavy_ev0 rest (pre ++ [s]) (n + s.length) (by omega) (by omega) (by simp; omega) (fun x hx => hs x (List.mem_cons_of_mem _ hx))
      simp only [← app_mid] at ih
      refine ⟨b, Ev.step (fun k => ?_) ih, fun h => by have := hf h; rw [List.flatten_cons, List.length_append]; omega⟩
      simp only [culletlaw16_heavy.l0]
      rw [if_pos hc, if_pos hb, if_pos (by omega), rdL2_mid, next_i _ s (by omega), w64 (n := n + s.length) (by omega) (by omega)]
    · refine ⟨_, Ev.step (f := fun _ => some (decide (n > 4194304))) (fun k => ?_) (Ev.now _), fun h => by simp at h; omega⟩
      simp only [culletlaw16_heavy.l0]
      rw [if_pos hc, if_neg hb]
theorem heavy_ev (l : List (List Int)) (h : OkR l) : ∃ b, Ev (fun k => culletlaw16_heavy.f k l) b ∧ (b = false → (l.flatten.length : Int) ≤ 4194304) := by
  have hb := h.1
  obtain ⟨b, this, hf⟩ := heavy_ev0 l [] (l.length : Int) (by omega) (by omega) (by simp; omega) (fun s hs => by have := (h.2 s hs).1; omega)
  exact ⟨b, by simpa [culletlaw16_heavy.f] using this, fun h => by have := hf h; omega⟩

/-! the tables -/
theorem odd_val (f L : Int) (h : 0 ≤ L) : shape_odd.f f L = some (decide (f = 2 ∧ L % 2 = 1)) := by
  unfold shape_odd.f
  rw [Int.tmod_eq_emod_of_nonneg h]
  by_cases hf : f = 2
  · rw [if_pos hf]; congr 1; simp [hf]; rfl
  · rw [if_neg hf]; simp [hf]
theorem counted_ev (f k m : Int) (l : List (List Int)) : Ev (fun q => shape_counted.f q f k m l) (if par f k m = 0 then (if (l.length : Int) = k + m then 0 else 160) else par f k m) := by
  refine ev_bind (g := fun q => shape_Params.f q f k m) (fun q => by unfold shape_counted.f; rfl) (params_ev f k m) (ev_const fun q => ?_)
  by_cases hp : par f k m = 0
  · obtain ⟨h1, h2, h3, h4, h5, h6, h7⟩ := par_ok hp
    rw [if_pos hp, if_pos hp, w64 (by omega) (by omega), ite_some]
  · rw [if_neg hp, if_neg hp]
def wholeV (f k m : Int) (l : List (List Int)) : Int × Int :=
  if par f k m = 0 then (if (l.length : Int) = k + m then (if emp 0 l = [] then (if evens (first l) l = true then (if f = 2 ∧ (first l : Int) % 2 = 1 then (0, 8) else ((first l : Int), 0)) else (0, 162)) else (0, 161)) else (0, 160)) else (0, par f k m)
theorem emp_pos (l : List (List Int)) : ((emp 0 l).length : Int) > 0 ↔ ¬ emp 0 l = [] := by
  cases emp 0 l <;> simp <;> omega
theorem whole_ev (f k m : Int) (l : List (List Int)) (h : l.length ≤ 8796093022208) : Ev (fun q => shape_Whole.f q f k m l) (wholeV f k m l) := by
  refine ev_bind (g := fun q => shape_counted.f q f k m l) (fun q => by unfold shape_Whole.f; rfl) (counted_ev f k m l) ?_
  unfold wholeV
  by_cases hp : par f k m = 0
  · simp only [if_pos hp]
    by_cases hl : (l.length : Int) = k + m
    · simp only [if_pos hl, if_true]
      refine Ev.bind (lengths_ev l h) (ev_const fun q => ?_)
      rw [odd_val _ _ (by omega)]
      by_cases he : emp 0 l = []
      · rw [if_neg (by rw [emp_pos]; simpa using he), if_pos he]
        by_cases hv : evens (first l) l = true
        · rw [if_pos hv, if_pos hv]
          simp only [Option.bind_some, decide_eq_true_eq, ite_some]
        · rw [if_neg hv, if_neg hv]
      · rw [if_pos ((emp_pos l).2 he), if_neg he]
    · simp only [if_neg hl]
      exact ev_const fun q => by rw [if_neg (by decide)]
  · simp only [if_neg hp]; exact Ev.now _
theorem refWhole_ev (f k m : Int) (l : List (List Int)) (h : l.length ≤ 8796093022208) : Ev (fun q => culletref16_Whole.f q f k m l) (wholeV f k m l) := by
  refine ev_bind (g := fun q => culletref16_Params.f q f k m) (fun q => by unfold culletref16_Whole.f; rfl) (refParams_ev f k m) ?_
  unfold wholeV
  by_cases hp : par f k m = 0
  · obtain ⟨h1, h2, h3, h4, h5, h6, h7⟩ := par_ok hp
    simp only [if_pos hp, w64 (n := k + m) (by omega) (by omega)]
    by_cases hl : (l.length : Int) = k + m
    · simp only [if_pos hl]
      refine Ev.bind (empties_ev l h) ?_
      by_cases he : emp 0 l = []
      · rw [if_pos he]
        simp only [if_neg (show ¬ ((emp 0 l).length : Int) > 0 by rw [emp_pos]; simpa using he)]
        refine Ev.bind (unlike_ev l false h (.inr he)) ?_
        by_cases hv : evens (first l) l = true
        · rw [if_pos hv]
          simp only [hv, Bool.not_true, Bool.false_eq_true, if_false]
          refine Ev.bind (longest_ev l h hv) (ev_const fun q => ?_)
          rw [Int.tmod_eq_emod_of_nonneg (by omega)]
          by_cases a : f = 2
          · by_cases b : (first l : Int) % 2 = 1
            · rw [if_pos a, if_pos b, if_pos ⟨a, b⟩]
            · rw [if_pos a, if_neg b, if_neg (fun x => b x.2)]
          · rw [if_neg a, if_neg (fun x => a x.1)]
        · rw [if_neg hv]
          simp only [Bool.eq_false_iff.2 hv, Bool.not_false, if_true]
          exact Ev.now _
      · rw [if_neg he]
        simp only [if_pos ((emp_pos l).2 he)]
        exact Ev.now _
    · simp only [if_neg hl]; exact Ev.now _
  · simp only [if_neg hp]; exact Ev.now _
def partV (f k m : Int) (l : List (List Int)) : Int × List Int × Int :=
  if par f k m = 0 then (if (l.length : Int) = k + m then (if (first l : Int) = 0 then (0, [], 161) else (if evens (first l) l = true then (if f = 2 ∧ (first l : Int) % 2 = 1 then (0, [], 8) else (if ((emp 0 l).length : Int) > m then (0, [], 9) else ((first l : Int), emp 0 l, 0))) else (0, [], 162))) else (0, [], 160)) else (0, [], par f k m)
theorem part_ev (f k m : Int) (l : List (List Int)) (h : l.length ≤ 8796093022208) : Ev (fun q => shape_Partial.f q f k m l) (partV f k m l) := by
  refine ev_bind (g := fun q => shape_counted.f q f k m l) (fun q => by unfold shape_Partial.f; rfl) (counted_ev f k m l) ?_
  unfold partV
  by_cases hp : par f k m = 0
  · simp only [if_pos hp]
    by_cases hl : (l.length : Int) = k + m
    · simp only [if_pos hl, if_true]
      refine Ev.bind (lengths_ev l h) (ev_const fun q => ?_)
      rw [odd_val _ _ (by omega)]
      by_cases hz : (first l : Int) = 0
      · rw [if_pos hz, if_pos hz]
      · rw [if_neg hz, if_neg hz]
        by_cases hv : evens (first l) l = true
        · rw [if_pos hv, if_pos hv]
          simp only [Option.bind_some, decide_eq_true_eq, ite_some]
        · rw [if_neg hv, if_neg hv]
    · simp only [if_neg hl]
      exact ev_const fun q => by rw [if_neg (by decide)]
  · simp only [if_neg hp]; exact Ev.now _
theorem refPart_ev (f k m : Int) (l : List (List Int)) (h : l.length ≤ 8796093022208) : Ev (fun q => culletref16_Partial.f q f k m l) (partV f k m l) := by
  refine ev_bind (g := fun q => culletref16_Params.f q f k m) (fun q => by unfold culletref16_Partial.f; rfl) (refParams_ev f k m) ?_
  unfold partV
  by_cases hp : par f k m = 0
  · obtain ⟨h1, h2, h3, h4, h5, h6, h7⟩ := par_ok hp
    simp only [if_pos hp, w64 (n := k + m) (by omega) (by omega)]
    by_cases hl : (l.length : Int) = k + m
    · simp only [if_pos hl]
      refine Ev.bind (empties_ev l h) ?_
      have ha := emp_all l 0
      have hle := emp_length l 0
      by_cases hz : (first l : Int) = 0
      · rw [if_pos hz]
        simp only [if_pos (show ((emp 0 l).length : Int) = k + m by rw [ha.2 (by omega)]; exact hl)]
        exact Ev.now _
      · rw [if_neg hz]
        simp only [if_neg (show ¬ ((emp 0 l).length : Int) = k + m from fun x => hz (by have := ha.1 (by omega); omega))]
        refine Ev.bind (unlike_ev l true h (.inl rfl)) ?_
        by_cases hv : evens (first l) l = true
        · rw [if_pos hv]
          simp only [hv, Bool.not_true, Bool.false_eq_true, if_false]
          refine Ev.bind (longest_ev l h hv) ?_
          refine Ev.congr (f := fun q => culletref16_Partial.j0 q k m (emp 0 l) (first l : Int) (decide (f = 2 ∧ (first l : Int) % 2 = 1))) (fun q => ?_) (Ev.step (fun q => ?_) (Ev.now _))
          · rw [Int.tmod_eq_emod_of_nonneg (by omega)]
            by_cases a : f = 2
            · rw [if_pos a]; congr 1; simp [a]; rfl
            · rw [if_neg a]; congr 1; simp [a]
          · simp only [culletref16_Partial.j0]
            rw [w64 (n := k + m) (by omega) (by omega), w64 (n := k + m - ((emp 0 l).length : Int)) (by omega) (by omega)]
            by_cases a : f = 2 ∧ (first l : Int) % 2 = 1
            · rw [if_pos (by simpa using a), if_pos a]
            · rw [if_neg (by simpa using a), if_neg a]
              by_cases b : ((emp 0 l).length : Int) > m
              · rw [if_pos (by omega), if_pos b]
              · rw [if_neg (by omega), if_neg b]
        · rw [if_neg hv]
          simp only [Bool.eq_false_iff.2 hv, Bool.not_false, if_true]
          exact Ev.now _
    · simp only [if_neg hl]; exact Ev.now _
  · simp only [if_neg hp]; exact Ev.now _
/-- The numbers of those that are not empty, counted from i. -/
def nemp : Nat → List (List Int) → List Int
  | _, [] => []
  | i, s :: t => if s.length = 0 then nemp (i + 1) t else (i : Int) :: nemp (i + 1) t
theorem nemp_length : ∀ (l : List (List Int)) (i : Nat), (nemp i l).length ≤ l.length
  | [], i => by simp [nemp]
  | s :: t, i => by
    have := nemp_length t (i + 1)
    simp only [nemp]
    split <;> simp <;> omega
def freshV (f k m : Int) (l r : List (List Int)) : Int × List Int × Int :=
  if par f k m = 0 then (if (l.length : Int) = k + m ∧ (r.length : Int) = k then (if emp 0 l = [] then (if evens (first l) l = true ∧ evens (first l) r = true then (if f = 2 ∧ (first l : Int) % 2 = 1 then (0, [], 8) else ((first l : Int), nemp 0 r, 0)) else (0, [], 162)) else (0, [], 161)) else (0, [], 160)) else (0, [], par f k m)
theorem fresh_ev0 (f : Int) (L : Nat) : ∀ (rest pre : List (List Int)) (b : Bool) (e : List Int), pre.length + rest.length ≤ 8796093022208 → e.length ≤ pre.length →
    Ev (fun k => shape_Fresh.l0 k f (L : Int) b e (pre ++ rest) ((pre ++ rest).length : Int) (pre.length : Int)) (if (b && evens L rest) = true then (if f = 2 ∧ (L : Int) % 2 = 1 then (0, [], 8) else ((L : Int), e ++ nemp pre.length rest, 0)) else (0, [], 162))
  | [], pre, b, e, hn, he => by
    refine Ev.step (fun k => ?_) (Ev.now _)
    simp only [shape_Fresh.l0]
    rw [if_neg (by simp), odd_val _ _ (by omega)]
    cases b
    · simp [evens]
    · simp [evens, nemp, ite_some]
  | s :: rest, pre, b, e, hn, he => by
    have hn' : pre.length + rest.length + 1 ≤ 8796093022208 := by simpa [Nat.add_assoc] using hn
    have ih := fun b e (he : e.length ≤ pre.length + 1) => fresh_ev0 f L rest (pre ++ [s]) b e (by simp; omega) (by simpa using he)
    simp only [← app_mid] at ih
    have hl : (pre ++ [s]).length = pre.length + 1 := by simp
    have hc : (pre.length : Int) < ((pre ++ s :: rest).length : Int) := by simp; omega
    by_cases h0 : s.length = 0
    · refine Ev.step (fun k => ?_) (ev_eq (ih b e (by omega)) ?_)
      · simp only [shape_Fresh.l0]
        rw [if_pos hc, if_pos (by omega), if_pos hc, rdL2_mid, if_neg (by omega), next_i _ s (by omega)]
      · rw [hl]; simp [evens, nemp, h0]
    · refine Ev.step (fun k => ?_) (ev_eq (ih (b && (s.length == L)) (e ++ [(pre.length : Int)]) (by simp; omega)) ?_)
      · simp only [shape_Fresh.l0]
        rw [if_pos hc, if_pos (by omega), if_pos hc, rdL2_mid, if_pos (by omega), if_pos (show e.length < 17592186044416 by omega), next_i _ s (by omega)]
        simp only [Option.bind_some]
        cases b
        · simp
        · rw [if_pos rfl, Bool.true_and]
          congr 1
          by_cases hh : s.length = L
          · simp [hh]
          · rw [show (s.length == L) = false by simpa using hh, beq_eq_false_iff_ne]; omega
      · rw [hl]
        have : (s.length == 0) = false := by simpa using h0
        simp only [evens, List.all_cons, this, Bool.false_or, nemp, if_neg h0, Bool.and_assoc, List.append_assoc, List.singleton_append]
theorem fresh_ev (f k m : Int) (l r : List (List Int)) (h : l.length ≤ 8796093022208) (h2 : r.length ≤ 8796093022208) : Ev (fun q => shape_Fresh.f q f k m l r) (freshV f k m l r) := by
  refine ev_bind (g := fun q => shape_counted.f q f k m l) (fun q => by unfold shape_Fresh.f; rfl) (counted_ev f k m l) ?_
  unfold freshV
  by_cases hp : par f k m = 0
  · simp only [if_pos hp]
    by_cases hl : (l.length : Int) = k + m
    · simp only [if_pos hl, if_true]
      by_cases hr : (r.length : Int) = k
      · simp only [if_pos hr]
        rw [if_pos ⟨hl, hr⟩]
        refine Ev.bind (lengths_ev l h) ?_
        by_cases he : emp 0 l = []
        · rw [if_pos he]
          simp only [if_neg (show ¬ ((emp 0 l).length : Int) > 0 by rw [emp_pos]; simpa using he)]
          have := fresh_ev0 f (first l) r [] (evens (first l) l) [] (by simpa using h2) (by simp)
          simpa using this
        · rw [if_neg he]
          simp only [if_pos ((emp_pos l).2 he)]
          exact Ev.now _
      · simp only [if_neg hr]
        rw [if_neg (fun x => hr x.2)]
        exact Ev.now _
    · simp only [if_neg hl]
      rw [if_neg (fun x => hl x.1)]
      exact ev_const fun q => by rw [if_neg (by decide)]
  · simp only [if_neg hp]; exact Ev.now _
theorem refFresh_ev0 (x : Int) (r : List (List Int)) : ∀ (rest pre : List (List Int)) (e : List Int), pre.length + rest.length ≤ 8796093022208 → e.length ≤ pre.length →
    Ev (fun k => culletref16_Fresh.l0 k ((pre ++ rest).length : Int) (pre ++ rest) x e (pre.length : Int)) (x, e ++ nemp pre.length rest, 0)
  | [], pre, e, hn, he => by
    refine Ev.step (f := fun _ => some (x, e, 0)) (fun k => ?_) (ev_eq (Ev.now _) (by simp [nemp]))
    simp [culletref16_Fresh.l0]
  | s :: rest, pre, e, hn, he => by
    have hn' : pre.length + rest.length + 1 ≤ 8796093022208 := by simpa [Nat.add_assoc] using hn
    have ih := fun e (he : e.length ≤ pre.length + 1) => refFresh_ev0 x r rest (pre ++ [s]) e (by simp; omega) (by simpa using he)
    simp only [← app_mid] at ih
    have hl : (pre ++ [s]).length = pre.length + 1 := by simp
    have hc : (pre.length : Int) < ((pre ++ s :: rest).length : Int) := by simp; omega
    by_cases h0 : s.length = 0
    · refine Ev.step (fun k => ?_) (ev_eq (ih e (by omega)) ?_)
      · simp only [culletref16_Fresh.l0]
        rw [if_pos hc, if_pos (by omega), if_pos hc, rdL2_mid, if_neg (by omega), next_i _ s (by omega)]
      · rw [hl]; simp [nemp, h0]
    · refine Ev.step (fun k => ?_) (ev_eq (ih (e ++ [(pre.length : Int)]) (by simp; omega)) ?_)
      · simp only [culletref16_Fresh.l0]
        rw [if_pos hc, if_pos (by omega), if_pos hc, rdL2_mid, if_pos (by omega), if_pos (show e.length < 17592186044416 by omega), next_i _ s (by omega)]
      · rw [hl]; simp [nemp, h0]
theorem first_append {l r : List (List Int)} (h : first l ≠ 0) : first (l ++ r) = first l := by
  induction l with
  | nil => exact absurd rfl h
  | cons s t ih =>
    simp only [List.cons_append, first] at *
    split
    · rename_i hs; rw [if_pos hs] at h; exact ih h
    · rfl
theorem first_ne {l : List (List Int)} (h : emp 0 l = []) (hl : l ≠ []) : first l ≠ 0 := by
  cases l with
  | nil => exact absurd rfl hl
  | cons s t =>
    have := (emp_nil (s :: t) 0).1 h s List.mem_cons_self
    simp only [first]; rw [if_neg this]; exact this
theorem refFresh_ev (f k m : Int) (l r : List (List Int)) (h : l.length ≤ 8796093022208) (h2 : r.length ≤ 8796093022208) : Ev (fun q => culletref16_Fresh.f q f k m l r) (freshV f k m l r) := by
  refine ev_bind (g := fun q => culletref16_Params.f q f k m) (fun q => by unfold culletref16_Fresh.f; rfl) (refParams_ev f k m) ?_
  unfold freshV
  by_cases hp : par f k m = 0
  · obtain ⟨h1, h2', h3, h4, h5, h6, h7⟩ := par_ok hp
    simp only [if_pos hp, w64 (n := k + m) (by omega) (by omega)]
    by_cases hl : (l.length : Int) = k + m
    · simp only [if_pos hl]
      by_cases hr : (r.length : Int) = k
      · rw [if_pos ⟨hl, hr⟩, show ((r.length : Int) != k) = false by simpa using hr]
        refine Ev.step (fun q => by simp only [culletref16_Fresh.j0]; rw [if_neg (by decide)]) (Ev.bind (empties_ev l (by omega)) ?_)
        by_cases he : emp 0 l = []
        · rw [if_pos he]
          simp only [if_neg (show ¬ ((emp 0 l).length : Int) > 0 by rw [emp_pos]; simpa using he), Option.bind_some, List.nil_append, List.length_nil, Nat.zero_add]
          simp only [if_pos (show l.length < 5864062014805 by omega), if_pos (show l.length + r.length < 5864062014805 by omega)]
          refine Ev.bind (unlike_ev (l ++ r) true (by rw [List.length_append]; omega) (.inl rfl)) ?_
          have hne := first_ne he (by intro h; rw [h] at hl; simp at hl; omega)
          rw [first_append hne, show evens (first l) (l ++ r) = (evens (first l) l && evens (first l) r) by simp [evens]]
          by_cases hv : evens (first l) l = true ∧ evens (first l) r = true
          · rw [if_pos hv, hv.1, hv.2]
            simp only [Bool.and_self, Bool.not_true, Bool.false_eq_true, if_false]
            refine Ev.bind (longest_ev l (by omega) hv.1) ?_
            refine Ev.congr (f := fun q => culletref16_Fresh.j1 q k r (first l : Int) (decide (f = 2 ∧ (first l : Int) % 2 = 1))) (fun q => ?_) ?_
            · rw [Int.tmod_eq_emod_of_nonneg (by omega)]
              by_cases a : f = 2
              · rw [if_pos a]; congr 1; simp [a]; rfl
              · rw [if_neg a]; congr 1; simp [a]
            · by_cases a : f = 2 ∧ (first l : Int) % 2 = 1
              · rw [if_pos a]
                exact Ev.step (f := fun _ => some (0, [], 8)) (fun q => by simp only [culletref16_Fresh.j1]; rw [if_pos (by simpa using a)]) (Ev.now _)
              · rw [if_neg a]
                refine Ev.step (fun q => by simp only [culletref16_Fresh.j1]; rw [if_neg (by simpa using a)]) ?_
                have := refFresh_ev0 (first l : Int) r r [] [] (by simp; omega) (by simp)
                rw [← hr]
                simpa using this
          · rw [if_neg hv]
            have : (evens (first l) l && evens (first l) r) = false := by
              rw [Bool.and_eq_false_iff]
              by_cases a : evens (first l) l = true
              · exact .inr (by simpa using fun b => hv ⟨a, b⟩)
              · exact .inl (by simpa using a)
            simp only [this, Bool.not_false, if_true]
            exact Ev.now _
        · rw [if_neg he]
          simp only [if_pos ((emp_pos l).2 he)]
          exact Ev.now _
      · rw [if_neg (fun x => hr x.2), show ((r.length : Int) != k) = true by simpa using hr]
        exact Ev.step (f := fun _ => some (0, [], 160)) (fun q => by simp only [culletref16_Fresh.j0]; rw [if_pos trivial]) (Ev.now _)
    · simp only [if_neg hl]
      rw [if_neg (fun x => hl x.1)]
      exact Ev.step (f := fun _ => some (0, [], 160)) (fun q => by simp only [culletref16_Fresh.j0]; rw [if_pos trivial]) (Ev.now _)
  · simp only [if_neg hp]; exact Ev.now _

theorem tables_ok (o : S38) (h5 : OkR o.f5) (h6 : OkR o.f6) (h0 : 5 ≤ o.f0) : tablesOk o := by
  unfold tablesOk
  obtain ⟨b5, e5, _⟩ := heavy_ev o.f5 h5
  obtain ⟨b6, e6, _⟩ := heavy_ev o.f6 h6
  have l5 := h5.1; have l6 := h6.1
  have s5 : ∀ s ∈ o.f5, s.length < 140737488355328 := fun s hs => by have := (h5.2 s hs).1; omega
  have s6 : ∀ s ∈ o.f6, s.length < 140737488355328 := fun s hs => by have := (h6.2 s hs).1; omega
  have t5 := twin_ev o.f5 (by omega) s5
  have t6 := twin_ev o.f6 (by omega) s6
  have m5 := same_ev o.f5 (by omega) (fun s hs => by have := s5 s hs; omega)
  have m6 := same_ev o.f6 (by omega) (fun s hs => by have := s6 s hs; omega)
  have fin : Ev (fun k => culletlaw16_tables.j0 k false o.f0 o.f1 o.f2 o.f3 o.f4 o.f5 o.f6 o.f7) true := by
    refine Ev.step (fun k => by simp only [culletlaw16_tables.j0]; rw [if_neg (by decide)]) (Ev.bind t5 (Ev.bind t6 ?_))
    by_cases k5 : o.f0 = 5
    · simp only [if_pos k5]
      refine Ev.bind (whole_ev _ _ _ _ (by omega)) (Ev.bind (refWhole_ev _ _ _ _ (by omega)) ?_)
      simp only [if_true]
      refine Ev.bind m5 ?_
      simp only [if_true]
      exact Ev.bind m6 (Ev.now _)
    · simp only [if_neg k5]
      by_cases k6 : o.f0 = 6
      · simp only [if_pos k6]
        refine Ev.bind (part_ev _ _ _ _ (by omega)) (Ev.bind (refPart_ev _ _ _ _ (by omega)) ?_)
        simp only [if_true]
        refine Ev.bind (sameInts_ev _ ?_) ?_
        · unfold partV
          have := emp_length o.f5 0
          repeat' split
          all_goals simp
          omega
        · simp only [if_true]
          refine Ev.bind m5 ?_
          simp only [if_true]
          exact Ev.bind m6 (Ev.now _)
      · simp only [if_neg k6]
        refine Ev.bind (fresh_ev _ _ _ _ _ (by omega) (by omega)) (Ev.bind (refFresh_ev _ _ _ _ _ (by omega) (by omega)) ?_)
        simp only [if_true]
        refine Ev.bind (sameInts_ev _ ?_) ?_
        · unfold freshV
          have := nemp_length o.f6 0
          repeat' split
          all_goals simp
          omega
        · simp only [if_true]
          refine Ev.bind m5 ?_
          simp only [if_true]
          exact Ev.bind m6 (Ev.now _)
  have one : Ev (fun k => culletlaw16_tables.j0 k true o.f0 o.f1 o.f2 o.f3 o.f4 o.f5 o.f6 o.f7) true :=
    Ev.step (f := fun _ => some true) (fun k => by simp only [culletlaw16_tables.j0]; rw [if_pos trivial]) (Ev.now _)
  refine ev_bind (g := fun k => culletlaw16_heavy.f k o.f5) (fun k => by unfold culletlaw16_tables.f; rfl) e5 ?_
  cases b5
  · simp only [Bool.false_eq_true, if_false]
    refine Ev.bind e6 ?_
    cases b6
    · exact fin
    · exact one
  · simp only [if_true]; exact one
theorem ShapeTables (l : List S38) (hl : OkOps l) : ∃ k, culletlaw16_ShapeTables.f k l = some true := by
  refine Ev.rounds ?_
  unfold culletlaw16_ShapeTables.f
  refine Ev.bind (all_ev 5 7 l hl fun o ho h1 h2 => ?_) (Ev.now _)
  unfold stepOk
  rw [if_neg (by omega), if_pos h2]
  obtain ⟨w0, w1, w2, w3, w4, w5, w6, w7⟩ := hl.2 o ho
  exact tables_ok o w5 w6 h1
end Go.Proofs.Ytcbjabnnokjnpaa.Pure
