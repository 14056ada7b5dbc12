-- Written by a program of this session (wip/drive.py) for this seat.
import Derived.Test.YtcbjabnnokjnpaaPAx0
import Derived.Test.YtcbjabnnokjnpaaPAx2
namespace Go.Proofs.Ytcbjabnnokjnpaa.PA
open Go.RowKit Go.Proofs.YtcbjabnnokjnpaaW.PrintWords Go.Proofs.YtcbjabnnokjnpaaW.PrintLast Go.Proofs.YtcbjabnnokjnpaaW.PrintMore
attribute [local go_sem] max2_int min2_int max_two min_two max_three min_three max_four min_four   -- for this text's walks alone
set_option linter.unusedVariables false
set_option linter.unusedSimpArgs false

/-! ### shape_odd: function 30 -/
def shape_odd.f (a0 : Int) (a1 : Int) : Option (Bool) := if a0 = 2 then (some ((Int.tmod a1 2) == 1)) else (some false)
set_option maxHeartbeats 8000000 in
set_option maxRecDepth 100000 in
theorem shape_odd.calls (a0 : Int) (a1 : Int) (r : Bool) (w : World) (h : shape_odd.f a0 a1 = some r) :
    Calls Try.prog 30 #[.int .i64 a0, .int .i64 a1] w fun e w' => e = .returned (.bool r) ∧ Drawn0 w w' := by
  have H : (if a0 = 2 then (some ((Int.tmod a1 2) == 1)) else (some false)) = some r := h
  clear h
  by_cases c3 : a0 = 2
  · rw [if_pos c3] at H
    have c3b0 : (a0 == 2) = true := beq_iff_eq.mpr c3
    have c3b1 : (a0 != 2) = false := bne_eq_false_iff_eq.mpr c3
    clear c3
    obtain rfl := Option.some.inj H
    go_enter Try.func30, Try.ntmps30
    go_wp2
    go_ret
    exact ⟨by first | rfl | (simp; done) | (simp [*]; done), by repeat (first | exact Drawn0.refl _ | apply Drawn0.step)⟩
  · rw [if_neg c3] at H
    have c3b0 : (a0 == 2) = false := beq_eq_false_iff_ne.mpr c3
    have c3b1 : (a0 != 2) = true := bne_iff_ne.mpr c3
    obtain rfl := Option.some.inj H
    go_enter Try.func30, Try.ntmps30
    go_wp2
    go_ret
    exact ⟨by first | rfl | (simp; done) | (simp [*]; done), by repeat (first | exact Drawn0.refl _ | apply Drawn0.step)⟩

/-! ### shape_Length: function 15 -/
def shape_Length.f (k : Nat) (a0 : Int) (a1 : Int) (a2 : Int) (a3 : Int) : Option (Int × Int) := (shape_Params.f k a0 a1 a2).bind fun t103 => (if t103 = 0 then (if a3 < 1 then (some (0, 163)) else (if a3 > 1099511627776 then (some (0, 5)) else (if a1 = 0 then (none) else ((shape_odd.f a0 (wrap64 (Int.tdiv (wrap64 ((wrap64 (a3 + a1)) - 1)) a1))).bind fun t104 => (if t104 = true then (some (wrap64 ((wrap64 (Int.tdiv (wrap64 ((wrap64 (a3 + a1)) - 1)) a1)) + 1), 0)) else (some (wrap64 (Int.tdiv (wrap64 ((wrap64 (a3 + a1)) - 1)) a1), 0))))))) else (some (0, t103)))
theorem shape_Length.mono : ∀ a0 a1 a2 a3 k, LeO (shape_Length.f k a0 a1 a2 a3) (shape_Length.f (k + 1) a0 a1 a2 a3) := by
  intro a0 a1 a2 a3 k
  unfold shape_Length.f
  repeat' first
      | (with_reducible exact shape_Params.mono _ _ _ _)
      | (with_reducible exact LeO.refl _)
      | (with_reducible exact LeO.none _)
      | (with_reducible refine LeO.ite ?_ ?_)
      | (with_reducible refine LeO.bind ?_ (fun _ => ?_))
      | exact shape_Params.mono _ _ _ _
      | exact LeO.none _
      | refine LeO.ite ?_ ?_
      | refine LeO.bind ?_ (fun _ => ?_)
set_option maxHeartbeats 8000000 in
set_option maxRecDepth 100000 in
theorem shape_Length.calls (k : Nat) (a0 : Int) (a1 : Int) (a2 : Int) (a3 : Int) (r1 : Int) (r2 : Int) (w : World) (h : shape_Length.f k a0 a1 a2 a3 = some (r1, r2)) :
    Calls Try.prog 15 #[.int .i64 a0, .int .i64 a1, .int .i64 a2, .int .i64 a3] w fun e w' => e = .returned (.tuple #[.int .i64 r1, .int .i64 r2]) ∧ Drawn0 w w' := by
  have H : ((shape_Params.f k a0 a1 a2).bind fun t103 => (if t103 = 0 then (if a3 < 1 then (some (0, 163)) else (if a3 > 1099511627776 then (some (0, 5)) else (if a1 = 0 then (none) else ((shape_odd.f a0 (wrap64 (Int.tdiv (wrap64 ((wrap64 (a3 + a1)) - 1)) a1))).bind fun t104 => (if t104 = true then (some (wrap64 ((wrap64 (Int.tdiv (wrap64 ((wrap64 (a3 + a1)) - 1)) a1)) + 1), 0)) else (some (wrap64 (Int.tdiv (wrap64 ((wrap64 (a3 + a1)) - 1)) a1), 0))))))) else (some (0, t103)))) = some (r1, r2) := h
  clear h
  replace H := Option.bind_eq_some_iff.mp H
  obtain ⟨t103, A50, H⟩ := H
  replace H : (if t103 = 0 then (if a3 < 1 then (some (0, 163)) else (if a3 > 1099511627776 then (some (0, 5)) else (if a1 = 0 then (none) else ((shape_odd.f a0 (wrap64 (Int.tdiv (wrap64 ((wrap64 (a3 + a1)) - 1)) a1))).bind fun t104 => (if t104 = true then (some (wrap64 ((wrap64 (Int.tdiv (wrap64 ((wrap64 (a3 + a1)) - 1)) a1)) + 1), 0)) else (some (wrap64 (Int.tdiv (wrap64 ((wrap64 (a3 + a1)) - 1)) a1), 0))))))) else (some (0, t103))) = some (r1, r2) := H
  have A5 := Aside0.mk A50
  clear A50
  by_cases c6 : t103 = 0
  · rw [if_pos c6] at H
    have c6b0 : (t103 == 0) = true := beq_iff_eq.mpr c6
    have c6b1 : (t103 != 0) = false := bne_eq_false_iff_eq.mpr c6
    clear c6
    by_cases c7 : a3 < 1
    · rw [if_pos c7] at H
      have c7b0 : decide (a3 < 1) = true := decide_eq_true c7
      clear c7
      simp only [Option.some.injEq, Prod.mk.injEq] at H
      obtain ⟨rfl, rfl⟩ := H
      go_enter Try.func15, Try.ntmps15
      go_wp2_with (first | ((with_reducible refine gate_callee (f := 14) rfl ?_); refine goesL_ (some 15) rfl rfl Try.func14 (by kernel_rfl) rfl #[.int .i64 a0, .int .i64 a1, .int .i64 a2] rfl (by (try simp only [List.map_toArray, List.map_cons, List.map_nil]); first | done | rfl | (simp only [List.length_drop, List.length_take]; rfl)) ?_; (with_reducible refine (shape_Params.calls k a0 a1 a2 t103 _ A5.out).mono ?_); rintro e w' ⟨rfl, ⟨nd, rfl⟩⟩; refine ⟨_, rfl, ?_⟩))
      go_ret2
      exact ⟨by first | rfl | (simp; done) | (simp [*]; done), by repeat (first | exact Drawn0.refl _ | apply Drawn0.step)⟩
    · rw [if_neg c7] at H
      have c7b0 : decide (a3 < 1) = false := decide_eq_false c7
      clear c7
      by_cases c8 : a3 > 1099511627776
      · rw [if_pos c8] at H
        have c8b0 : decide (1099511627776 < a3) = true := decide_eq_true c8
        clear c8
        simp only [Option.some.injEq, Prod.mk.injEq] at H
        obtain ⟨rfl, rfl⟩ := H
        go_enter Try.func15, Try.ntmps15
        go_wp2_with (first | ((with_reducible refine gate_callee (f := 14) rfl ?_); refine goesL_ (some 15) rfl rfl Try.func14 (by kernel_rfl) rfl #[.int .i64 a0, .int .i64 a1, .int .i64 a2] rfl (by (try simp only [List.map_toArray, List.map_cons, List.map_nil]); first | done | rfl | (simp only [List.length_drop, List.length_take]; rfl)) ?_; (with_reducible refine (shape_Params.calls k a0 a1 a2 t103 _ A5.out).mono ?_); rintro e w' ⟨rfl, ⟨nd, rfl⟩⟩; refine ⟨_, rfl, ?_⟩))
        go_ret2
        exact ⟨by first | rfl | (simp; done) | (simp [*]; done), by repeat (first | exact Drawn0.refl _ | apply Drawn0.step)⟩
      · rw [if_neg c8] at H
        have c8b0 : decide (1099511627776 < a3) = false := decide_eq_false c8
        clear c8
        by_cases c9 : a1 = 0
        · rw [if_pos c9] at H
          exact absurd H (by simp)
        · rw [if_neg c9] at H
          have c9b0 : (a1 == 0) = false := beq_eq_false_iff_ne.mpr c9
          have c9b1 : (a1 != 0) = true := bne_iff_ne.mpr c9
          replace H := Option.bind_eq_some_iff.mp H
          obtain ⟨t104, A100, H⟩ := H
          replace H : (if t104 = true then (some (wrap64 ((wrap64 (Int.tdiv (wrap64 ((wrap64 (a3 + a1)) - 1)) a1)) + 1), 0)) else (some (wrap64 (Int.tdiv (wrap64 ((wrap64 (a3 + a1)) - 1)) a1), 0))) = some (r1, r2) := H
          have A10 := Aside0.mk A100
          clear A100
          by_cases c11 : t104 = true
          · subst c11
            have H1 : (some (wrap64 ((wrap64 (Int.tdiv (wrap64 ((wrap64 (a3 + a1)) - 1)) a1)) + 1), 0)) = some (r1, r2) := by rw [if_pos rfl] at H; exact H
            clear H
            have H := H1
            clear H1
            simp only [Option.some.injEq, Prod.mk.injEq] at H
            obtain ⟨rfl, rfl⟩ := H
            go_enter Try.func15, Try.ntmps15
            go_wp2_with (first | ((with_reducible refine gate_callee (f := 14) rfl ?_); refine goesL_ (some 15) rfl rfl Try.func14 (by kernel_rfl) rfl #[.int .i64 a0, .int .i64 a1, .int .i64 a2] rfl (by (try simp only [List.map_toArray, List.map_cons, List.map_nil]); first | done | rfl | (simp only [List.length_drop, List.length_take]; rfl)) ?_; (with_reducible refine (shape_Params.calls k a0 a1 a2 t103 _ A5.out).mono ?_); rintro e w' ⟨rfl, ⟨nd, rfl⟩⟩; refine ⟨_, rfl, ?_⟩) | ((with_reducible refine gate_callee (f := 30) rfl ?_); refine goesL_ (some 33) rfl rfl Try.func30 (by kernel_rfl) rfl #[.int .i64 a0, .int .i64 (wrap64 (Int.tdiv (wrap64 ((wrap64 (a3 + a1)) - 1)) a1))] rfl (by (try simp only [List.map_toArray, List.map_cons, List.map_nil]); first | done | rfl | (simp only [List.length_drop, List.length_take]; rfl)) ?_; (with_reducible refine (shape_odd.calls a0 (wrap64 (Int.tdiv (wrap64 ((wrap64 (a3 + a1)) - 1)) a1)) true _ A10.out).mono ?_); rintro e w' ⟨rfl, ⟨nd, rfl⟩⟩; refine ⟨_, rfl, ?_⟩))
            go_ret2
            exact ⟨by first | rfl | (simp; done) | (simp [*]; done), by repeat (first | exact Drawn0.refl _ | apply Drawn0.step)⟩
          · replace c11 := Bool.eq_false_iff.mpr c11
            subst c11
            have H1 : (some (wrap64 (Int.tdiv (wrap64 ((wrap64 (a3 + a1)) - 1)) a1), 0)) = some (r1, r2) := by rw [if_neg (show ¬ (false = true) by decide)] at H; exact H
            clear H
            have H := H1
            clear H1
            simp only [Option.some.injEq, Prod.mk.injEq] at H
            obtain ⟨rfl, rfl⟩ := H
            go_enter Try.func15, Try.ntmps15
            go_wp2_with (first | ((with_reducible refine gate_callee (f := 14) rfl ?_); refine goesL_ (some 15) rfl rfl Try.func14 (by kernel_rfl) rfl #[.int .i64 a0, .int .i64 a1, .int .i64 a2] rfl (by (try simp only [List.map_toArray, List.map_cons, List.map_nil]); first | done | rfl | (simp only [List.length_drop, List.length_take]; rfl)) ?_; (with_reducible refine (shape_Params.calls k a0 a1 a2 t103 _ A5.out).mono ?_); rintro e w' ⟨rfl, ⟨nd, rfl⟩⟩; refine ⟨_, rfl, ?_⟩) | ((with_reducible refine gate_callee (f := 30) rfl ?_); refine goesL_ (some 33) rfl rfl Try.func30 (by kernel_rfl) rfl #[.int .i64 a0, .int .i64 (wrap64 (Int.tdiv (wrap64 ((wrap64 (a3 + a1)) - 1)) a1))] rfl (by (try simp only [List.map_toArray, List.map_cons, List.map_nil]); first | done | rfl | (simp only [List.length_drop, List.length_take]; rfl)) ?_; (with_reducible refine (shape_odd.calls a0 (wrap64 (Int.tdiv (wrap64 ((wrap64 (a3 + a1)) - 1)) a1)) false _ A10.out).mono ?_); rintro e w' ⟨rfl, ⟨nd, rfl⟩⟩; refine ⟨_, rfl, ?_⟩))
            go_ret2
            exact ⟨by first | rfl | (simp; done) | (simp [*]; done), by repeat (first | exact Drawn0.refl _ | apply Drawn0.step)⟩
  · rw [if_neg c6] at H
    have c6b0 : (t103 == 0) = false := beq_eq_false_iff_ne.mpr c6
    have c6b1 : (t103 != 0) = true := bne_iff_ne.mpr c6
    simp only [Option.some.injEq, Prod.mk.injEq] at H
    obtain ⟨rfl, rfl⟩ := H
    go_enter Try.func15, Try.ntmps15
    go_wp2_with (first | ((with_reducible refine gate_callee (f := 14) rfl ?_); refine goesL_ (some 15) rfl rfl Try.func14 (by kernel_rfl) rfl #[.int .i64 a0, .int .i64 a1, .int .i64 a2] rfl (by (try simp only [List.map_toArray, List.map_cons, List.map_nil]); first | done | rfl | (simp only [List.length_drop, List.length_take]; rfl)) ?_; (with_reducible refine (shape_Params.calls k a0 a1 a2 t103 _ A5.out).mono ?_); rintro e w' ⟨rfl, ⟨nd, rfl⟩⟩; refine ⟨_, rfl, ?_⟩))
    go_ret2
    exact ⟨by first | rfl | (simp; done) | (simp [*]; done), by repeat (first | exact Drawn0.refl _ | apply Drawn0.step)⟩

end Go.Proofs.Ytcbjabnnokjnpaa.PA
