/- Plain law of layer 16, the lists: lengths, empties, the shards' one length: the program's and the document's. -/
import Derived.Test.YtcbjabnnokjnpaaPureA
import Derived.Test.YtcbjabnnokjnpaaPAx0
import Derived.Test.YtcbjabnnokjnpaaPAx3
import Derived.Test.YtcbjabnnokjnpaaPAx7
set_option linter.unusedVariables false
namespace Go.Proofs.Ytcbjabnnokjnpaa.Pure
open Go.RowKit Go.Proofs.Ytcbjabnnokjnpaa.PA Go.Proofs.YtcbjabnnokjnpaaW.PrintWords Go.Proofs.YtcbjabnnokjnpaaW.PrintLast Go.Proofs.YtcbjabnnokjnpaaW.PrintMore

theorem rdL2_mid (pre rest : List (List Int)) (s : List Int) : rd_L2 (pre ++ s :: rest) (pre.length : Int) = s := by
  unfold rd_L2; simp
theorem rd_mid (pre rest : List Int) (s : Int) : rd (pre ++ s :: rest) (pre.length : Int) = s := by
  unfold rd; simp
theorem next_i {α : Type} (pre : List α) (s : α) (h : pre.length < 9223372036854775807) : wrap64 ((pre.length : Int) + 1) = ((pre ++ [s]).length : Int) := by
  rw [w64 (by omega) (by omega)]; simp
theorem app_mid {α : Type} (pre rest : List α) (s : α) : pre ++ s :: rest = (pre ++ [s]) ++ rest := by simp

/-! lengths -/
def lensF : Int → List Int → Bool → Nat → List (List Int) → Int × List Int × Bool
  | L, e, b, _, [] => (L, e, b)
  | L, e, b, i, s :: t => if (s.length : Int) = 0 then lensF L (e ++ [(i : Int)]) b (i + 1) t else if L = 0 then lensF (s.length : Int) e b (i + 1) t else if L = (s.length : Int) then lensF L e b (i + 1) t else lensF L e false (i + 1) t
theorem lengths_ev0 : ∀ (rest pre : List (List Int)) (L : Int) (e : List Int) (b : Bool), pre.length + rest.length ≤ 8796093022208 → e.length ≤ pre.length →
    Ev (fun k => shape_lengths.l0 k L e b (pre ++ rest) ((pre ++ rest).length : Int) (pre.length : Int)) (lensF L e b pre.length rest)
  | [], pre, L, e, b, hn, he => by
    refine Ev.step (f := fun _ => some (L, e, b)) (fun k => ?_) (Ev.now _)
    simp [shape_lengths.l0]
  | s :: rest, pre, L, e, b, hn, he => by
    have hn' : pre.length + rest.length + 1 ≤ 8796093022208 := by simpa [Nat.add_assoc] using hn
    have ih := fun L e b (he : e.length ≤ pre.length + 1) => lengths_ev0 rest (pre ++ [s]) L e b (by simp; omega) (by simpa using he)
    simp only [← app_mid] at ih
    have hl : (pre ++ [s]).length = pre.length + 1 := by simp
    have hc : (pre.length : Int) < ((pre ++ s :: rest).length : Int) := by simp; omega
    refine Ev.step (f := fun k => if (s.length : Int) = 0 then shape_lengths.l0 k L (e ++ [(pre.length : Int)]) b (pre ++ s :: rest) ((pre ++ s :: rest).length : Int) ((pre ++ [s]).length : Int)
        else if L = 0 then shape_lengths.l0 k (s.length : Int) e b (pre ++ s :: rest) ((pre ++ s :: rest).length : Int) ((pre ++ [s]).length : Int)
        else if L = (s.length : Int) then shape_lengths.l0 k L e b (pre ++ s :: rest) ((pre ++ s :: rest).length : Int) ((pre ++ [s]).length : Int)
        else shape_lengths.l0 k L e false (pre ++ s :: rest) ((pre ++ s :: rest).length : Int) ((pre ++ [s]).length : Int)) (fun k => ?_) ?_
    · simp only [shape_lengths.l0]
      rw [if_pos hc, if_pos (by omega), if_pos hc, rdL2_mid, next_i _ s (by omega), if_pos (show e.length < 17592186044416 by omega)]
    · simp only [lensF]
      by_cases h0 : (s.length : Int) = 0
      · simp only [if_pos h0]
        rw [← hl]
        exact ih L _ b (by simp; omega)
      · simp only [if_neg h0]
        by_cases h1 : L = 0
        · simp only [if_pos h1]; rw [← hl]; exact ih _ e b (by omega)
        · simp only [if_neg h1]
          by_cases h2 : L = (s.length : Int)
          · simp only [if_pos h2]; rw [← hl]; exact ih _ e b (by omega)
          · simp only [if_neg h2]; rw [← hl]; exact ih _ e false (by omega)

/-- The numbers of the empty ones, counted from i. -/
def emp : Nat → List (List Int) → List Int
  | _, [] => []
  | i, s :: t => if s.length = 0 then (i : Int) :: emp (i + 1) t else emp (i + 1) t
/-- The first length that is not 0. -/
def first : List (List Int) → Nat
  | [] => 0
  | s :: t => if s.length = 0 then first t else s.length
def evens (L : Nat) (l : List (List Int)) : Bool := l.all fun s => s.length == 0 || s.length == L
theorem lensF_pos (L : Nat) (hL : L ≠ 0) : ∀ (l : List (List Int)) (e : List Int) (b : Bool) (i : Nat), lensF (L : Int) e b i l = ((L : Int), e ++ emp i l, b && evens L l)
  | [], e, b, i => by simp [lensF, emp, evens]
  | s :: t, e, b, i => by
    have ih := lensF_pos L hL t
    simp only [lensF, emp]
    by_cases h0 : s.length = 0
    · rw [if_pos (by omega), if_pos h0, ih]
      simp [evens, h0]
    · rw [if_neg (by omega), if_neg h0, if_neg (by omega)]
      by_cases h1 : L = s.length
      · rw [if_pos (by omega), ih]; simp [evens, h1]
      · rw [if_neg (by omega), ih]
        have : (s.length == L) = false := by simpa using fun h => h1 h.symm
        simp [evens, h0, this]
theorem lensF_zero : ∀ (l : List (List Int)) (e : List Int) (b : Bool) (i : Nat), lensF 0 e b i l = (((first l : Nat) : Int), e ++ emp i l, b && evens (first l) l)
  | [], e, b, i => by simp [lensF, emp, evens, first]
  | s :: t, e, b, i => by
    simp only [lensF, emp, first]
    by_cases h0 : s.length = 0
    · rw [if_pos (by omega), if_pos h0, if_pos h0, lensF_zero t]
      simp [evens, h0]
    · rw [if_neg (by omega), if_neg h0, if_neg h0, if_pos trivial, lensF_pos _ h0]
      simp [evens]
theorem lengths_ev (l : List (List Int)) (h : l.length ≤ 8796093022208) : Ev (fun k => shape_lengths.f k l) (((first l : Nat) : Int), emp 0 l, evens (first l) l) := by
  have := lengths_ev0 l [] 0 [] true (by simpa using h) (by simp)
  rw [show (([] : List (List Int)).length) = 0 from rfl, lensF_zero] at this
  simpa [shape_lengths.f] using this

/-! the document's -/
theorem empties_ev0 : ∀ (rest pre : List (List Int)) (e : List Int), pre.length + rest.length ≤ 8796093022208 → e.length ≤ pre.length →
    Ev (fun k => culletref16_empties.l0 k (pre ++ rest) e (pre.length : Int)) (e ++ emp pre.length rest)
  | [], pre, e, hn, he => by
    refine Ev.step (f := fun _ => some e) (fun k => ?_) (ev_eq (Ev.now _) (by simp [emp]))
    simp [culletref16_empties.l0]
  | s :: rest, pre, e, hn, he => by
    have hn' : pre.length + rest.length + 1 ≤ 8796093022208 := by simpa [Nat.add_assoc] using hn
    have ih := fun e (he : e.length ≤ pre.length + 1) => empties_ev0 rest (pre ++ [s]) e (by simp; omega) (by simpa using he)
    simp only [← app_mid] at ih
    have hl : (pre ++ [s]).length = pre.length + 1 := by simp
    have hc : (pre.length : Int) < ((pre ++ s :: rest).length : Int) := by simp; omega
    refine Ev.step (f := fun k => if (s.length : Int) = 0 then culletref16_empties.l0 k (pre ++ s :: rest) (e ++ [(pre.length : Int)]) ((pre ++ [s]).length : Int) else culletref16_empties.l0 k (pre ++ s :: rest) e ((pre ++ [s]).length : Int)) (fun k => ?_) ?_
    · simp only [culletref16_empties.l0]
      rw [if_pos hc, if_pos (by omega), rdL2_mid, next_i _ s (by omega), if_pos (show e.length < 17592186044416 by omega)]
    · simp only [emp]
      by_cases h0 : s.length = 0
      · simp only [if_pos h0, if_pos (show (s.length : Int) = 0 by omega)]
        rw [← hl]
        have := ih (e ++ [(pre.length : Int)]) (by simp; omega)
        simpa using this
      · simp only [if_neg h0, if_neg (show ¬ (s.length : Int) = 0 by omega)]
        rw [← hl]
        exact ih e (by omega)
theorem empties_ev (l : List (List Int)) (h : l.length ≤ 8796093022208) : Ev (fun k => culletref16_empties.f k l) (emp 0 l) := by
  have := empties_ev0 l [] [] (by simpa using h) (by simp)
  simpa [culletref16_empties.f] using this
theorem emp_length : ∀ (l : List (List Int)) (i : Nat), (emp i l).length ≤ l.length
  | [], i => by simp [emp]
  | s :: t, i => by
    have := emp_length t (i + 1)
    simp only [emp]
    split <;> simp <;> omega
theorem emp_nil : ∀ (l : List (List Int)) (i : Nat), emp i l = [] ↔ ∀ s ∈ l, s.length ≠ 0
  | [], i => by simp [emp]
  | s :: t, i => by
    have := emp_nil t (i + 1)
    simp only [emp]
    by_cases h : s.length = 0
    · rw [if_pos h]; exact ⟨fun h' => (by cases h'), fun h' => absurd h (h' s List.mem_cons_self)⟩
    · simp only [if_neg h, this, List.mem_cons, forall_eq_or_imp]
      exact ⟨fun x => ⟨h, x⟩, fun x => x.2⟩
theorem emp_all : ∀ (l : List (List Int)) (i : Nat), (emp i l).length = l.length ↔ first l = 0
  | [], i => by simp [emp, first]
  | s :: t, i => by
    have := emp_all t (i + 1)
    have hle := emp_length t (i + 1)
    simp only [emp, first]
    by_cases h : s.length = 0
    · rw [if_pos h, if_pos h, ← this]; simp
    · rw [if_neg h, if_neg h, List.length_cons]; omega

/-- The greatest length, m or more. -/
def longF : Nat → List (List Int) → Nat
  | m, [] => m
  | m, s :: t => if s.length > m then longF s.length t else longF m t
theorem longest_ev0 : ∀ (rest pre : List (List Int)) (m : Nat), pre.length + rest.length ≤ 8796093022208 →
    Ev (fun k => culletref16_longest.l0 k (pre ++ rest) (m : Int) (pre.length : Int)) ((longF m rest : Nat) : Int)
  | [], pre, m, hn => by
    refine Ev.step (f := fun _ => some (m : Int)) (fun k => ?_) (Ev.now _)
    simp [culletref16_longest.l0]
  | s :: rest, pre, m, hn => by
    have hn' : pre.length + rest.length + 1 ≤ 8796093022208 := by simpa [Nat.add_assoc] using hn
    have ih := fun m => longest_ev0 rest (pre ++ [s]) m (by simp; omega)
    simp only [← app_mid] at ih
    have hc : (pre.length : Int) < ((pre ++ s :: rest).length : Int) := by simp; omega
    refine Ev.step (f := fun k => if (s.length : Int) > (m : Int) then culletref16_longest.l0 k (pre ++ s :: rest) (s.length : Int) ((pre ++ [s]).length : Int) else culletref16_longest.l0 k (pre ++ s :: rest) (m : Int) ((pre ++ [s]).length : Int)) (fun k => ?_) ?_
    · simp only [culletref16_longest.l0]
      rw [if_pos hc, if_pos (by omega), rdL2_mid, next_i _ s (by omega)]
    · simp only [longF]
      by_cases h0 : s.length > m
      · simp only [if_pos h0, if_pos (show (s.length : Int) > m by omega)]; exact ih _
      · simp only [if_neg h0, if_neg (show ¬ (s.length : Int) > m by omega)]; exact ih _
theorem longF_evens (L : Nat) : ∀ (l : List (List Int)) (m : Nat), (m = 0 ∧ first l = L ∨ m = L) → evens L l = true → longF m l = L
  | [], m, h, _ => by
    rcases h with ⟨rfl, h⟩ | h
    · simpa [longF, first] using h
    · simpa [longF] using h
  | s :: t, m, h, he => by
    simp only [longF]
    simp only [evens, List.all_cons, Bool.and_eq_true, Bool.or_eq_true, beq_iff_eq] at he
    obtain ⟨h1, h2⟩ := he
    by_cases h0 : s.length = 0
    · rw [if_neg (by omega)]
      refine longF_evens L t m ?_ h2
      rcases h with ⟨rfl, h⟩ | h
      · simp [first, h0] at h; exact .inl ⟨rfl, h⟩
      · exact .inr h
    · have hs : s.length = L := h1.resolve_left h0
      split
      · exact longF_evens L t _ (.inr hs) h2
      · refine longF_evens L t m (.inr ?_) h2
        rcases h with ⟨rfl, h⟩ | h
        · omega
        · exact h
theorem longest_ev (l : List (List Int)) (h : l.length ≤ 8796093022208) (he : evens (first l) l = true) : Ev (fun k => culletref16_longest.f k l) ((first l : Nat) : Int) := by
  have := longest_ev0 l [] 0 (by simpa using h)
  rw [longF_evens (first l) l 0 (.inl ⟨rfl, rfl⟩) he] at this
  simpa [culletref16_longest.f] using this

/-- Unlike lengths, from the length x on (below 0: none yet). -/
def unlF (past : Bool) : Int → List (List Int) → Bool
  | _, [] => false
  | x, s :: t => if past = true ∧ s.length = 0 then unlF past x t else if 0 ≤ x ∧ (s.length : Int) ≠ x then true else unlF past (s.length : Int) t
theorem unlike_ev0 (past : Bool) : ∀ (rest pre : List (List Int)) (x : Int), pre.length + rest.length ≤ 8796093022208 →
    Ev (fun k => culletref16_unlike.l0 k (pre ++ rest) past x (pre.length : Int)) (unlF past x rest)
  | [], pre, x, hn => by
    refine Ev.step (f := fun _ => some false) (fun k => ?_) (Ev.now _)
    simp [culletref16_unlike.l0]
  | s :: rest, pre, x, hn => by
    have hn' : pre.length + rest.length + 1 ≤ 8796093022208 := by simpa [Nat.add_assoc] using hn
    have ih := fun x => unlike_ev0 past rest (pre ++ [s]) x (by simp; omega)
    simp only [← app_mid] at ih
    have hc : (pre.length : Int) < ((pre ++ s :: rest).length : Int) := by simp; omega
    refine Ev.step (f := fun k => culletref16_unlike.j1 k (pre ++ s :: rest) past x (pre.length : Int) (decide (past = true ∧ s.length = 0))) (fun k => ?_) ?_
    · simp only [culletref16_unlike.l0]
      rw [if_pos hc, if_pos (show (0 : Int) ≤ pre.length by omega), rdL2_mid]
      by_cases hp : past = true
      · rw [if_pos hp]; congr 1
        by_cases h0 : s.length = 0
        · simp [h0, hp]
        · simp [h0, hp]
      · rw [if_neg hp]; simp [hp]
    · refine Ev.step (f := fun k => if past = true ∧ s.length = 0 then culletref16_unlike.l0 k (pre ++ s :: rest) past x ((pre ++ [s]).length : Int) else if 0 ≤ x ∧ (s.length : Int) ≠ x then some true else culletref16_unlike.l0 k (pre ++ s :: rest) past (s.length : Int) ((pre ++ [s]).length : Int)) (fun k => ?_) ?_
      · simp only [culletref16_unlike.j1]
        rw [if_pos (show (0 : Int) ≤ pre.length by omega), if_pos hc, rdL2_mid, next_i _ s (by omega)]
        by_cases h1 : past = true ∧ s.length = 0
        · rw [if_pos (by simpa using h1), if_pos h1]
        · rw [if_neg (by simpa using h1), if_neg h1]
          by_cases hx : 0 ≤ x
          · rw [if_pos (show x ≥ 0 from hx)]
            by_cases he : (s.length : Int) = x
            · rw [if_pos he, if_neg (by simp [he])]
            · rw [if_neg he, if_pos ⟨hx, he⟩]
          · rw [if_neg (show ¬ x ≥ 0 from hx), if_pos (show (0 : Int) ≤ pre.length by omega), if_pos hc, if_neg (show ¬ (0 ≤ x ∧ (s.length : Int) ≠ x) from fun hh => hx hh.1)]
      · simp only [unlF]
        by_cases h1 : past = true ∧ s.length = 0
        · simp only [if_pos h1]; exact ih x
        · simp only [if_neg h1]
          by_cases h2 : 0 ≤ x ∧ (s.length : Int) ≠ x
          · simp only [if_pos h2]; exact Ev.now _
          · simp only [if_neg h2]; exact ih _
theorem unlF_pos (past : Bool) (L : Nat) (hL : L ≠ 0) : ∀ (l : List (List Int)), (past = true ∨ ∀ s ∈ l, s.length ≠ 0) → unlF past (L : Int) l = !evens L l
  | [], h => by simp [unlF, evens]
  | s :: t, h => by
    have ih := unlF_pos past L hL t (h.imp id fun h s hs => h s (List.mem_cons_of_mem _ hs))
    simp only [unlF]
    by_cases h1 : past = true ∧ s.length = 0
    · rw [if_pos h1, ih]; simp [evens, h1.2]
    · rw [if_neg h1]
      have h0 : s.length ≠ 0 := fun h0 => by
        rcases h with h | h
        · exact h1 ⟨h, h0⟩
        · exact h s List.mem_cons_self h0
      by_cases h2 : s.length = L
      · rw [if_neg (by omega), h2, ih]; simp [evens, h2]
      · rw [if_pos (by omega)]
        have : (s.length == L) = false := by simpa using h2
        simp [evens, h0, this]
theorem unlF_neg (past : Bool) : ∀ (l : List (List Int)), (past = true ∨ ∀ s ∈ l, s.length ≠ 0) → unlF past (-1) l = !evens (first l) l
  | [], h => by simp [unlF, evens]
  | s :: t, h => by
    have ih := unlF_neg past t (h.imp id fun h s hs => h s (List.mem_cons_of_mem _ hs))
    simp only [unlF, first]
    by_cases h1 : past = true ∧ s.length = 0
    · rw [if_pos h1, if_pos h1.2, ih]; simp [evens, h1.2]
    · have h0 : s.length ≠ 0 := fun h0 => by
        rcases h with h | h
        · exact h1 ⟨h, h0⟩
        · exact h s List.mem_cons_self h0
      rw [if_neg h1, if_neg (by omega), if_neg h0, unlF_pos past _ h0 t (h.imp id fun h s hs => h s (List.mem_cons_of_mem _ hs))]
      simp [evens]
theorem unlike_ev (l : List (List Int)) (past : Bool) (h : l.length ≤ 8796093022208) (hp : past = true ∨ emp 0 l = []) : Ev (fun k => culletref16_unlike.f k l past) (!evens (first l) l) := by
  have := unlike_ev0 past l [] (-1) (by simpa using h)
  rw [unlF_neg past l (hp.imp id (emp_nil l 0).1)] at this
  simpa [culletref16_unlike.f] using this

theorem pair_ite {c : Prop} [Decidable c] (a b z : Int) : (if c then (a, z) else (b, z)) = (if c then a else b, z) := by split <;> rfl
/-! the document's parameters and lengths are the program's -/
theorem refPow2_ev (n : Int) : Ev (fun k => culletref16_Pow2.f k n) (if n < 1 ∨ 65536 < n then (0, 7) else (p2 n, 0)) := by
  by_cases h : n < 1 ∨ 65536 < n
  · rw [if_pos h]
    refine Ev.congr (f := fun k => culletref16_Pow2.j0 k n true) (fun k => ?_) (Ev.step (f := fun _ => some (0, 7)) (fun k => by simp [culletref16_Pow2.j0]) (Ev.now _))
    unfold culletref16_Pow2.f
    by_cases a : n < 1
    · rw [if_pos a]
    · rw [if_neg a, show decide (n > 65536) = true by simp; omega]
  · rw [if_neg h]
    refine Ev.congr (f := fun k => culletref16_Pow2.j0 k n false) (fun k => ?_) (Ev.step (f := fun k => culletref16_Pow2.l0 k n 1) (fun k => by simp [culletref16_Pow2.j0]) ?_)
    · unfold culletref16_Pow2.f
      rw [if_neg (by omega), show decide (n > 65536) = false by simp; omega]
    · refine ev_mk 18 fun k hk => ?_
      obtain ⟨m, rfl⟩ : ∃ m, k = m + 18 := ⟨k - 18, by omega⟩
      have step : ∀ m x, culletref16_Pow2.l0 (m + 1) n x = if x < n then culletref16_Pow2.l0 m n (wrap64 (2 * x)) else some (x, 0) := fun _ _ => rfl
      simp only [step, show wrap64 (2 * 1) = 2 from by decide +kernel, show wrap64 (2 * 2) = 4 from by decide +kernel, show wrap64 (2 * 4) = 8 from by decide +kernel, show wrap64 (2 * 8) = 16 from by decide +kernel, show wrap64 (2 * 16) = 32 from by decide +kernel, show wrap64 (2 * 32) = 64 from by decide +kernel, show wrap64 (2 * 64) = 128 from by decide +kernel, show wrap64 (2 * 128) = 256 from by decide +kernel, show wrap64 (2 * 256) = 512 from by decide +kernel, show wrap64 (2 * 512) = 1024 from by decide +kernel, show wrap64 (2 * 1024) = 2048 from by decide +kernel, show wrap64 (2 * 2048) = 4096 from by decide +kernel, show wrap64 (2 * 4096) = 8192 from by decide +kernel, show wrap64 (2 * 8192) = 16384 from by decide +kernel, show wrap64 (2 * 16384) = 32768 from by decide +kernel, show wrap64 (2 * 32768) = 65536 from by decide +kernel, if_neg (show ¬ (65536 : Int) < n by omega), ite_some, pair_ite]
      rfl
theorem refParams_ev (f k m : Int) : Ev (fun n => culletref16_Params.f n f k m) (par f k m) := by
  refine Ev.congr (f := fun n => culletref16_Params.j0 n f k m (decide (f < 0 ∨ 2 < f))) (fun n => ?_) ?_
  · unfold culletref16_Params.f
    by_cases a : f = 0
    · rw [if_pos a]; congr 1; simp; omega
    · rw [if_neg a]
      by_cases b : f = 1
      · rw [if_pos b]; congr 1; simp; omega
      · rw [if_neg b]; congr 1
        by_cases c : f = 2
        · simp [c]
        · rw [show (f != 2) = true by simpa using c]; simp; omega
  · unfold par
    by_cases hf : f < 0 ∨ 2 < f
    · rw [if_pos hf]
      exact Ev.step (f := fun _ => some 2) (fun n => by simp [culletref16_Params.j0, hf]) (Ev.now _)
    · rw [if_neg hf]
      refine Ev.step (f := fun n => culletref16_Params.j1 n f k m (decide (k < 1 ∨ m < 1 ∨ 65536 < k ∨ 65536 < m))) (fun n => ?_) ?_
      · simp only [culletref16_Params.j0]
        rw [if_neg (by simpa using hf)]
        by_cases a : k < 1
        · rw [if_pos a]; congr 1; simp; omega
        · rw [if_neg a]
          by_cases b : m < 1
          · rw [if_pos b]; congr 1; simp; omega
          · rw [if_neg b]
            by_cases c : k > 65536
            · rw [if_pos c]; congr 1; simp; omega
            · rw [if_neg c]; congr 1
              exact decide_eq_decide.2 (by omega)
      · by_cases hb : k < 1 ∨ m < 1 ∨ 65536 < k ∨ 65536 < m
        · rw [if_pos hb]
          exact Ev.step (f := fun _ => some 4) (fun n => by simp only [culletref16_Params.j1]; rw [if_pos (by simpa using hb)]) (Ev.now _)
        · rw [if_neg hb]
          by_cases h2 : f = 2
          · rw [if_neg (by simpa using h2)]
            refine Ev.step (f := fun n => (culletref16_Pow2.f n m).bind fun bt => if (wrap64 (bt.1 + k)) > 65536 then (some 4) else (some 0)) (fun n => by simp only [culletref16_Params.j1]; rw [if_neg (by simpa using hb), if_pos h2]) ?_
            refine Ev.bind (refPow2_ev m) (ev_const fun n => ?_)
            rw [if_neg (show ¬ (m < 1 ∨ 65536 < m) by omega)]
            have := p2_is m
            rw [w64 (by omega) (by omega), ite_some, Int.add_comm]
          · rw [if_pos h2]
            refine Ev.step (f := fun n => some (if 256 < k + m then 4 else 0)) (fun n => ?_) (Ev.now _)
            simp only [culletref16_Params.j1]
            rw [if_neg (by simpa using hb), if_neg h2, w64 (by omega) (by omega), ite_some]
theorem reflen_val {f k n : Int} (h1 : 1 ≤ k) (h2 : k ≤ 65536) (h3 : 1 ≤ n) (h4 : n ≤ 1099511627776) : culletref16_length.f f k n = some (len f k n) := by
  have e := Int.mul_ediv_add_emod n k
  have m0 := Int.emod_nonneg n (b := k) (by omega)
  have m1 := Int.emod_lt_of_pos n (b := k) (by omega)
  have q0 : 0 ≤ n / k := Int.ediv_nonneg (by omega) (by omega)
  have q1 : n / k ≤ n := Int.ediv_le_self _ (by omega)
  have key : (n + k - 1) / k = if 0 < n % k then n / k + 1 else n / k := by
    split
    · rw [show n + k - 1 = (n % k - 1) + k * (n / k + 1) by rw [Int.mul_add]; omega, Int.add_mul_ediv_left _ _ (by omega), Int.ediv_eq_zero_of_lt (by omega) (by omega)]; omega
    · rw [show n + k - 1 = (k - 1) + k * (n / k) by omega, Int.add_mul_ediv_left _ _ (by omega), Int.ediv_eq_zero_of_lt (by omega) (by omega)]; omega
  unfold culletref16_length.f len
  rw [if_neg (by omega), Int.tmod_eq_emod_of_nonneg (by omega), Int.tdiv_eq_ediv_of_nonneg (by omega), key]
  rw [w64 (n := n / k) (by omega) (by omega), w64 (n := n / k + 1) (by omega) (by omega), w64 (n := n / k + 1 + 1) (by omega) (by omega), Int.tmod_eq_emod_of_nonneg (by omega), Int.tmod_eq_emod_of_nonneg (by omega)]
  by_cases a : 0 < n % k
  · rw [if_pos a, if_pos a]
    by_cases b : f = 2
    · simp only [if_pos b, ite_some]; congr 1
      by_cases c : (n / k + 1) % 2 = 1
      · rw [if_pos c, if_pos ⟨b, c⟩]
      · rw [if_neg c, if_neg (by simp [c])]
    · rw [if_neg b, if_neg (by simp [b])]
  · rw [if_neg a, if_neg a]
    by_cases b : f = 2
    · simp only [if_pos b, ite_some]; congr 1
      by_cases c : (n / k) % 2 = 1
      · rw [if_pos c, if_pos ⟨b, c⟩]
      · rw [if_neg c, if_neg (by simp [c])]
    · rw [if_neg b, if_neg (by simp [b])]
theorem refLength_ev (f k m n : Int) : Ev (fun q => culletref16_Length.f q f k m n) (lenE f k m n) := by
  unfold lenE
  refine ev_bind (g := fun q => culletref16_Params.f q f k m) (fun q => by unfold culletref16_Length.f; rfl) (refParams_ev f k m) (ev_const fun q => ?_)
  by_cases hp : par f k m = 0
  · rw [if_pos hp, if_pos hp]
    obtain ⟨h1, h2, h3, h4, h5, h6, h7⟩ := par_ok hp
    by_cases ha : n < 1
    · rw [if_pos ha, if_pos ha]
    · rw [if_neg ha, if_neg ha]
      by_cases hb : n > 1099511627776
      · rw [if_pos hb, if_pos hb]
      · rw [if_neg hb, if_neg hb, reflen_val (by omega) (by omega) (by omega) (by omega)]; rfl
  · rw [if_neg hp, if_neg hp]
end Go.Proofs.Ytcbjabnnokjnpaa.Pure
