/- Scripts: every step answers as the document says. -/
import Derived.Test.YtcbjabnnokjnpaaPureB
import Derived.Test.YtcbjabnnokjnpaaWAll
import Derived.Test.YtcbjabnnokjnpaaPAx0
import Derived.Test.YtcbjabnnokjnpaaPAx11
import Derived.Test.YtcbjabnnokjnpaaPAx12
import Derived.Test.YtcbjabnnokjnpaaPAx6
import Derived.Test.YtcbjabnnokjnpaaPAx7
import Derived.Test.YtcbjabnnokjnpaaPAx9
set_option linter.unusedVariables false
namespace Go.Proofs.Ytcbjabnnokjnpaa.Pure
open Go.RowKit Go.Proofs.Ytcbjabnnokjnpaa.PA Go.Proofs.YtcbjabnnokjnpaaW.PrintWords Go.Proofs.YtcbjabnnokjnpaaW.PrintLast Go.Proofs.YtcbjabnnokjnpaaW.PrintMore Go.Proofs.YtcbjabnnokjnpaaW.Open

def OkL (l : List Int) : Prop := l.length * 1 ≤ 140737488351232 ∧ ∀ x ∈ l, (Lit.int .u8 x).wf = true
def OkR (l : List (List Int)) : Prop := l.length * 24 ≤ 140737488351232 ∧ ∀ x ∈ l, OkL x
def OkOp (o : S38) : Prop := (Lit.int .i64 o.f0).wf = true ∧ (Lit.int .i64 o.f1).wf = true ∧ (Lit.int .i64 o.f2).wf = true ∧ (Lit.int .i64 o.f3).wf = true ∧ (Lit.int .i64 o.f4).wf = true ∧ OkR o.f5 ∧ OkR o.f6 ∧ OkL o.f7
def OkOps (l : List S38) : Prop := l.length * 112 ≤ 140737488351232 ∧ ∀ x ∈ l, OkOp x

theorem opens_int : Opens Try.prog (Kd.int .i64) 3 (fun n => (Lit.int .i64 n).wf = true) := Opens.int Try.underlying3
theorem opens_bytes : Opens Try.prog (Kd.slice 5 (Kd.int .u8)) 27 OkL := Opens.slice (B := 1) Try.underlying27 (by kernel_rfl) (by kernel_rfl) (Opens.int Try.underlying5)
theorem opens_rows : Opens Try.prog (Kd.slice 27 (Kd.slice 5 (Kd.int .u8))) 22 OkR := Opens.slice (B := 24) Try.underlying22 (by kernel_rfl) (by kernel_rfl) opens_bytes
theorem opens_op : Opens Try.prog k38 38 OkOp := by
  have s := Opens.struct Try.underlying38 (by kernel_rfl)
    (OpensF.cons rfl (by kernel_rfl) opens_int (OpensF.cons rfl (by kernel_rfl) opens_int (OpensF.cons rfl (by kernel_rfl) opens_int (OpensF.cons rfl (by kernel_rfl) opens_int (OpensF.cons rfl (by kernel_rfl) opens_int (OpensF.cons rfl (by kernel_rfl) opens_rows (OpensF.cons rfl (by kernel_rfl) opens_rows (OpensF.one rfl (by kernel_rfl) opens_bytes))))))))
  exact Opens.iso (fun x : S38 => (x.f0, x.f1, x.f2, x.f3, x.f4, x.f5, x.f6, x.f7)) (fun y => ⟨y.1, y.2.1, y.2.2.1, y.2.2.2.1, y.2.2.2.2.1, y.2.2.2.2.2.1, y.2.2.2.2.2.2.1, y.2.2.2.2.2.2.2⟩) (fun _ => rfl) s
theorem opens_ops : Opens Try.prog (Kd.slice 38 k38) 54 OkOps := Opens.slice (B := 112) Try.underlying54 (by kernel_rfl) (by kernel_rfl) opens_op

theorem rdT38_mid (pre rest : List S38) (s : S38) : rd_T38 (pre ++ s :: rest) (pre.length : Int) = s := by
  unfold rd_T38; simp

def usesV (f b : Int) : Int := if f < 0 ∨ 2 < f then 2 else if f = 2 then (if b = 3 ∨ b = 4 then 0 else 3) else (if b = 0 ∨ b = 1 ∨ b = 2 then 0 else 3)
theorem uses_ev (f b : Int) : Ev (fun k => shape_Uses.f k f b) (usesV f b) := by
  refine ev_bind (g := fun _ => shape_family.f f) (fun n => by unfold shape_Uses.f; rfl) (ev_const fun _ => family_val f) ?_
  unfold usesV
  by_cases hf : f < 0 ∨ 2 < f
  · rw [if_pos hf]; exact ev_const fun n => by rw [if_neg (by simp; omega)]
  · rw [if_neg hf]
    refine Ev.congr (f := fun k => shape_Uses.j0 k f b (decide (b = 3 ∨ b = 4))) (fun k => ?_) (Ev.step (f := fun _ => some (if f = 2 then (if b = 3 ∨ b = 4 then 0 else 3) else (if b = 0 ∨ b = 1 ∨ b = 2 then 0 else 3))) (fun k => ?_) (Ev.now _))
    · rw [if_pos (by simp; omega)]
      by_cases a : b = 3
      · rw [if_pos a]; simp [a]
      · rw [if_neg a]; congr 1; simp [a]; rfl
    · simp only [shape_Uses.j0]
      by_cases h2 : f = 2
      · rw [if_pos h2, if_pos h2]
        by_cases h : b = 3 ∨ b = 4
        · rw [if_pos (by simpa using h), if_pos h]
        · rw [if_neg (by simpa using h), if_neg h]
      · rw [if_neg h2, if_neg h2]
        by_cases a : b = 0
        · simp [a]
        · by_cases c : b = 1
          · simp [c]
          · simp [a, c, ite_some]
theorem refUses_ev (f b : Int) : Ev (fun k => culletref16_Uses.f k f b) (usesV f b) := by
  refine Ev.congr (f := fun k => culletref16_Uses.j0 k b f (decide (f = 0 ∨ f = 1))) (fun k => ?_) (Ev.step (f := fun _ => some (usesV f b)) (fun k => ?_) (Ev.now _))
  · unfold culletref16_Uses.f
    by_cases a : f = 0
    · simp [a]
    · rw [if_neg a]; congr 1; simp [a]; rfl
  · unfold usesV
    simp only [culletref16_Uses.j0]
    by_cases h : f = 0 ∨ f = 1
    · rw [if_pos (by simpa using h), if_neg (show ¬ (f < 0 ∨ 2 < f) by omega), if_neg (show ¬ f = 2 by omega)]
      by_cases a : b = 0
      · simp [a]
      · by_cases c : b = 1
        · simp [c]
        · simp [a, c, ite_some]
    · rw [if_neg (by simpa using h)]
      by_cases h2 : f = 2
      · rw [if_pos h2, if_neg (show ¬ (f < 0 ∨ 2 < f) by omega), if_pos h2]
        by_cases a : b = 3
        · simp [a]
        · simp [a, ite_some]
      · rw [if_neg h2, if_pos (show f < 0 ∨ 2 < f by omega)]
theorem shPow2_ev (n : Int) : Ev (fun k => shape_Pow2.f k n) (if n < 1 ∨ 65536 < n then (0, 7) else (p2 n, 0)) := by
  unfold shape_Pow2.f
  by_cases h : n < 1 ∨ 65536 < n
  · rw [if_pos h]
    refine ev_const fun k => ?_
    by_cases a : n < 1
    · rw [if_pos a]
    · rw [if_neg a, if_pos (by omega)]
  · rw [if_neg h]
    refine ev_bind (f := fun _ t => some (t, 0)) (fun k => ?_) (pow2_ev n (by omega)) (Ev.now _)
    rw [if_neg (by omega), if_neg (by omega)]

def numbersOk (o : S38) : Prop := Ev (fun k => culletlaw16_numbers.f k o.f0 o.f1 o.f2 o.f3 o.f4 o.f5 o.f6 o.f7) true
theorem numbers_ok (o : S38) : numbersOk o := by
  unfold numbersOk culletlaw16_numbers.f
  by_cases h1 : o.f0 = 1
  · simp only [if_pos h1]
    refine Ev.bind (shPow2_ev _) (Ev.bind (refPow2_ev _) (ev_const fun k => by simp))
  · simp only [if_neg h1]
    by_cases h2 : o.f0 = 2
    · simp only [if_pos h2]
      refine Ev.bind (params_ev _ _ _) (Ev.bind (refParams_ev _ _ _) (ev_const fun k => by simp))
    · simp only [if_neg h2]
      by_cases h3 : o.f0 = 3
      · simp only [if_pos h3]
        refine Ev.bind (uses_ev _ _) (Ev.bind (refUses_ev _ _) (ev_const fun k => by simp))
      · simp only [if_neg h3]
        refine Ev.bind (length_ev _ _ _ _) (Ev.bind (refLength_ev _ _ _ _) (ev_const fun k => by simp))

def tablesOk (o : S38) : Prop := Ev (fun k => culletlaw16_tables.f k o.f0 o.f1 o.f2 o.f3 o.f4 o.f5 o.f6 o.f7) true
def movesOk (o : S38) : Prop := Ev (fun k => culletlaw16_moves.f k o.f0 o.f1 o.f2 o.f3 o.f4 o.f5 o.f6 o.f7) true
def stepOk (o : S38) : Prop := if o.f0 ≤ 4 then numbersOk o else if o.f0 ≤ 7 then tablesOk o else movesOk o
theorem all_ev0 (lo hi : Int) : ∀ (rest pre : List S38), pre.length + rest.length ≤ 8796093022208 → (∀ o ∈ rest, lo ≤ o.f0 → o.f0 ≤ hi → stepOk o) →
    Ev (fun k => culletlaw16_all.l0 k lo hi (pre ++ rest) ((pre ++ rest).length : Int) (pre.length : Int)) true
  | [], pre, hn, h => by
    refine Ev.step (f := fun _ => some true) (fun k => ?_) (Ev.now _)
    simp [culletlaw16_all.l0]
  | o :: rest, pre, hn, h => by
    have hn' : pre.length + rest.length + 1 ≤ 8796093022208 := by simpa [Nat.add_assoc] using hn
    have ih := all_ev0 lo hi rest (pre ++ [o]) (by simp; omega) (fun x hx => h x (List.mem_cons_of_mem _ hx))
    have ho := h o List.mem_cons_self
    simp only [← app_mid] at ih
    have hc : (pre.length : Int) < ((pre ++ o :: rest).length : Int) := by simp; omega
    refine Ev.step (f := fun k => culletlaw16_all.j1 k lo hi (pre ++ o :: rest) ((pre ++ o :: rest).length : Int) (pre.length : Int) (decide (o.f0 < lo ∨ o.f0 > hi)) o.f0 o.f1 o.f2 o.f3 o.f4 o.f5 o.f6 o.f7) (fun k => ?_) ?_
    · simp only [culletlaw16_all.l0]
      rw [if_pos hc, if_pos (show (0 : Int) ≤ pre.length by omega), if_pos hc, rdT38_mid]
      by_cases a : o.f0 < lo
      · rw [if_pos a]; congr 1; simp [a]
      · rw [if_neg a]; congr 1; simp [a]
    · by_cases hk : o.f0 < lo ∨ o.f0 > hi
      · refine Ev.step (fun k => ?_) ih
        simp only [culletlaw16_all.j1]
        rw [if_pos (by simpa using hk), next_i _ o (by omega)]
      · have ho := ho (by omega) (by omega)
        unfold stepOk at ho
        by_cases h4 : o.f0 ≤ 4
        · rw [if_pos h4] at ho
          refine Ev.step (fun k => by simp only [culletlaw16_all.j1]; rw [if_neg (by simpa using hk), if_pos h4, next_i _ o (by omega)]) (Ev.bind ho ?_)
          simp only [if_true]; exact ih
        · rw [if_neg h4] at ho
          by_cases h7 : o.f0 ≤ 7
          · rw [if_pos h7] at ho
            refine Ev.step (fun k => by simp only [culletlaw16_all.j1]; rw [if_neg (by simpa using hk), if_neg h4, if_pos h7, next_i _ o (by omega)]) (Ev.bind ho ?_)
            simp only [if_true]; exact ih
          · rw [if_neg h7] at ho
            refine Ev.step (fun k => by simp only [culletlaw16_all.j1]; rw [if_neg (by simpa using hk), if_neg h4, if_neg h7, next_i _ o (by omega)]) (Ev.bind ho ?_)
            simp only [if_true]; exact ih
theorem all_ev (lo hi : Int) (l : List S38) (hl : OkOps l) (h : ∀ o ∈ l, lo ≤ o.f0 → o.f0 ≤ hi → stepOk o) : Ev (fun k => culletlaw16_all.f k l lo hi) true := by
  refine ev_bind (g := fun k => culletlaw16_awake.f k) (fun k => by unfold culletlaw16_all.f; rfl) awake_ev ?_
  simp only [if_true]
  have := all_ev0 lo hi l [] (by have := hl.1; simp; omega) h
  simpa using this
theorem ShapeNumbers (l : List S38) (hl : OkOps l) : ∃ k, culletlaw16_ShapeNumbers.f k l = some true := by
  refine Ev.rounds ?_
  unfold culletlaw16_ShapeNumbers.f
  refine Ev.bind (all_ev 1 4 l hl fun o ho h1 h2 => ?_) (Ev.now _)
  unfold stepOk
  rw [if_pos h2]
  exact numbers_ok o
end Go.Proofs.Ytcbjabnnokjnpaa.Pure
