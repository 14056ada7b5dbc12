-- Written by a program of this session (wip/drive.py, merge.py) for this seat.
import Derived.Test.YtcbjabnnokjnpaaPAx0
import Derived.Test.YtcbjabnnokjnpaaPAx3
import Derived.Test.YtcbjabnnokjnpaaPAx7
namespace Go.Proofs.Ytcbjabnnokjnpaa.PA
open Go.RowKit Go.Proofs.YtcbjabnnokjnpaaW.PrintWords Go.Proofs.YtcbjabnnokjnpaaW.PrintLast Go.Proofs.YtcbjabnnokjnpaaW.PrintMore
attribute [local go_sem] max2_int min2_int max_two min_two max_three min_three max_four min_four   -- for this text's walks alone
set_option linter.unusedVariables false
set_option linter.unusedSimpArgs false

/-! ### culletref16_Join: function 47 -/
mutual
def culletref16_Join.j0 : Nat → Int → Int → List (List Int) → Int → Bool → Option (List Int × Int)
  | 0, _, _, _, _, _ => none
  | k + 1, x1, x4, x13, x14, x45 => if x45 = true then (some (([] : List Int), 8)) else (if x4 < 0 then (culletref16_Join.j1 k x4 x13 x14 true) else (culletref16_Join.j1 k x4 x13 x14 (decide (x4 > (wrap64 (x1 * x14))))))
def culletref16_Join.j1 : Nat → Int → List (List Int) → Int → Bool → Option (List Int × Int)
  | 0, _, _, _, _ => none
  | k + 1, x4, x13, x14, x54 => if x54 = true then (some (([] : List Int), 164)) else (if 0 ≤ x4 then (if (x4 : Int).toNat ≤ 281474976710656 then (culletref16_Join.l0 k x4 x13 x14 (List.replicate (x4 : Int).toNat 0) 0) else (none)) else (none))
def culletref16_Join.l0 : Nat → Int → List (List Int) → Int → List Int → Int → Option (List Int × Int)
  | 0, _, _, _, _, _ => none
  | k + 1, x4, x13, x14, x15, x16 => if x16 < x4 then (if x14 = 0 then (none) else (if 0 ≤ (wrap64 (Int.tdiv x16 x14)) then (if (wrap64 (Int.tdiv x16 x14)) < (x13.length : Int) then (if 0 ≤ (Int.tmod x16 x14) then (if (Int.tmod x16 x14) < ((rd_L2 x13 (wrap64 (Int.tdiv x16 x14))).length : Int) then (if 0 ≤ x16 then (if x16 < (x15.length : Int) then (culletref16_Join.l0 k x4 x13 x14 (x15.set (x16 : Int).toNat (rd (rd_L2 x13 (wrap64 (Int.tdiv x16 x14))) (Int.tmod x16 x14))) (wrap64 (x16 + 1))) else (none)) else (none)) else (none)) else (none)) else (none)) else (none))) else (some (x15, 0))
end
def culletref16_Join.f (k : Nat) (a0 : Int) (a1 : Int) (a2 : Int) (l3 : List (List Int)) (a4 : Int) : Option (List Int × Int) := (culletref16_Params.f k a0 a1 a2).bind fun t435 => (if t435 = 0 then (if (l3.length : Int) < a1 then (some (([] : List Int), 160)) else (if 0 ≤ a1 then (if a1 ≤ (l3.length : Int) then ((some (l3.take (a1 : Int).toNat : List (List Int))).bind fun y436 => ((culletref16_empties.f k y436).bind fun t440 => (if (t440.length : Int) > 0 then (some (([] : List Int), 161)) else ((culletref16_unlike.f k y436 false).bind fun t443 => (if t443 = true then (some (([] : List Int), 162)) else ((culletref16_longest.f k y436).bind fun t444 => (if a0 = 2 then (culletref16_Join.j0 k a1 a4 y436 t444 ((Int.tmod t444 2) == 1)) else (culletref16_Join.j0 k a1 a4 y436 t444 false)))))))) else (none)) else (none))) else (some (([] : List Int), t435)))
theorem culletref16_Join.mono_l : ∀ k, (∀ y0 y1 y2 y3 y4, LeO (culletref16_Join.j0 k y0 y1 y2 y3 y4) (culletref16_Join.j0 (k + 1) y0 y1 y2 y3 y4)) ∧ (∀ y0 y1 y2 y3, LeO (culletref16_Join.j1 k y0 y1 y2 y3) (culletref16_Join.j1 (k + 1) y0 y1 y2 y3)) ∧ (∀ y0 y1 y2 y3 y4, LeO (culletref16_Join.l0 k y0 y1 y2 y3 y4) (culletref16_Join.l0 (k + 1) y0 y1 y2 y3 y4))
  | 0 => ⟨fun _ _ _ _ _ r h => by simp [culletref16_Join.j0] at h, fun _ _ _ _ r h => by simp [culletref16_Join.j1] at h, fun _ _ _ _ _ r h => by simp [culletref16_Join.l0] at h⟩
  | k + 1 => by
    obtain ⟨ih0, ih1, ih2⟩ := culletref16_Join.mono_l k
    refine ⟨?_, ?_, ?_⟩
    · intro y0 y1 y2 y3 y4
      unfold culletref16_Join.j0
      repeat' first
      | (with_reducible exact ih0 _ _ _ _ _)
      | (with_reducible exact ih1 _ _ _ _)
      | (with_reducible exact ih2 _ _ _ _ _)
      | (with_reducible exact culletref16_Params.mono _ _ _ _)
      | (with_reducible exact culletref16_empties.mono _ _)
      | (with_reducible exact culletref16_longest.mono _ _)
      | (with_reducible exact culletref16_unlike.mono _ _ _)
      | (with_reducible exact LeO.refl _)
      | (with_reducible exact LeO.none _)
      | (with_reducible refine LeO.ite ?_ ?_)
      | (with_reducible refine LeO.bind ?_ (fun _ => ?_))
      | exact ih0 _ _ _ _ _
      | exact ih1 _ _ _ _
      | exact ih2 _ _ _ _ _
      | exact culletref16_Params.mono _ _ _ _
      | exact culletref16_empties.mono _ _
      | exact culletref16_longest.mono _ _
      | exact culletref16_unlike.mono _ _ _
      | exact LeO.none _
      | refine LeO.ite ?_ ?_
      | refine LeO.bind ?_ (fun _ => ?_)
    · intro y0 y1 y2 y3
      unfold culletref16_Join.j1
      repeat' first
      | (with_reducible exact ih0 _ _ _ _ _)
      | (with_reducible exact ih1 _ _ _ _)
      | (with_reducible exact ih2 _ _ _ _ _)
      | (with_reducible exact culletref16_Params.mono _ _ _ _)
      | (with_reducible exact culletref16_empties.mono _ _)
      | (with_reducible exact culletref16_longest.mono _ _)
      | (with_reducible exact culletref16_unlike.mono _ _ _)
      | (with_reducible exact LeO.refl _)
      | (with_reducible exact LeO.none _)
      | (with_reducible refine LeO.ite ?_ ?_)
      | (with_reducible refine LeO.bind ?_ (fun _ => ?_))
      | exact ih0 _ _ _ _ _
      | exact ih1 _ _ _ _
      | exact ih2 _ _ _ _ _
      | exact culletref16_Params.mono _ _ _ _
      | exact culletref16_empties.mono _ _
      | exact culletref16_longest.mono _ _
      | exact culletref16_unlike.mono _ _ _
      | exact LeO.none _
      | refine LeO.ite ?_ ?_
      | refine LeO.bind ?_ (fun _ => ?_)
    · intro y0 y1 y2 y3 y4
      unfold culletref16_Join.l0
      repeat' first
      | (with_reducible exact ih0 _ _ _ _ _)
      | (with_reducible exact ih1 _ _ _ _)
      | (with_reducible exact ih2 _ _ _ _ _)
      | (with_reducible exact culletref16_Params.mono _ _ _ _)
      | (with_reducible exact culletref16_empties.mono _ _)
      | (with_reducible exact culletref16_longest.mono _ _)
      | (with_reducible exact culletref16_unlike.mono _ _ _)
      | (with_reducible exact LeO.refl _)
      | (with_reducible exact LeO.none _)
      | (with_reducible refine LeO.ite ?_ ?_)
      | (with_reducible refine LeO.bind ?_ (fun _ => ?_))
      | exact ih0 _ _ _ _ _
      | exact ih1 _ _ _ _
      | exact ih2 _ _ _ _ _
      | exact culletref16_Params.mono _ _ _ _
      | exact culletref16_empties.mono _ _
      | exact culletref16_longest.mono _ _
      | exact culletref16_unlike.mono _ _ _
      | exact LeO.none _
      | refine LeO.ite ?_ ?_
      | refine LeO.bind ?_ (fun _ => ?_)
theorem culletref16_Join.mono : ∀ a0 a1 a2 a3 a4 k, LeO (culletref16_Join.f k a0 a1 a2 a3 a4) (culletref16_Join.f (k + 1) a0 a1 a2 a3 a4) := by
  intro a0 a1 a2 a3 a4 k
  obtain ⟨ih0, ih1, ih2⟩ := culletref16_Join.mono_l k
  unfold culletref16_Join.f
  repeat' first
      | (with_reducible exact ih0 _ _ _ _ _)
      | (with_reducible exact ih1 _ _ _ _)
      | (with_reducible exact ih2 _ _ _ _ _)
      | (with_reducible exact culletref16_Params.mono _ _ _ _)
      | (with_reducible exact culletref16_empties.mono _ _)
      | (with_reducible exact culletref16_longest.mono _ _)
      | (with_reducible exact culletref16_unlike.mono _ _ _)
      | (with_reducible exact LeO.refl _)
      | (with_reducible exact LeO.none _)
      | (with_reducible refine LeO.ite ?_ ?_)
      | (with_reducible refine LeO.bind ?_ (fun _ => ?_))
      | exact ih0 _ _ _ _ _
      | exact ih1 _ _ _ _
      | exact ih2 _ _ _ _ _
      | exact culletref16_Params.mono _ _ _ _
      | exact culletref16_empties.mono _ _
      | exact culletref16_longest.mono _ _
      | exact culletref16_unlike.mono _ _ _
      | exact LeO.none _
      | refine LeO.ite ?_ ?_
      | refine LeO.bind ?_ (fun _ => ?_)
def culletref16_Join.T20 : Bool × List (List Nat × List Nat) := (true, [([], []), ([], []), ([], []), ([], []), ([], []), ([3, 4], [3, 4]), ([2, 5], [2, 5]), ([6], [6]), ([], []), ([], []), ([8, 9], [8, 9]), ([7, 10], [7, 10]), ([11], [11]), ([0, 1, 0, 1, 2, 3, 4, 5, 6, 7, 8, 9, 10, 11, 12], [0, 1]), ([13, 12, 0, 1, 2, 3, 4, 5, 6, 7, 8, 9, 10, 11, 12], [12, 13])])
def culletref16_Join.B20 : List Nat := [0, 0, 0, 0, 0, 24, 60, 124, 0, 0, 768, 2044, 4092, 8191, 16383]
theorem culletref16_Join.tab20 : rtab .any (opsOf Try.f47 20) = culletref16_Join.T20 := by kernel_rfl
theorem culletref16_Join.bits20 : waitsOk culletref16_Join.T20.2 culletref16_Join.B20 = true := by kernel_rfl
set_option maxHeartbeats 8000000 in
set_option maxRecDepth 100000 in
theorem culletref16_Join.calls (k : Nat) (a0 : Int) (a1 : Int) (a2 : Int) (A3 : Option Addr) (c3 : Nat) (l3 : List (List Int)) (a4 : Int) (r1 : List Int) (r2 : Int) (w : World) (hr3 : Kd.C (Kd.slice 5 (Kd.int .u8)) w A3 l3.length l3) (hc3 : l3.length ≤ c3) (h : culletref16_Join.f k a0 a1 a2 l3 a4 = some (r1, r2)) :
    Calls Try.prog 47 #[.int .i64 a0, .int .i64 a1, .int .i64 a2, .slice A3 l3.length c3, .int .i64 a4] w fun e w' => ∃ v0_ : Value, e = .returned (.tuple #[v0_, .int .i64 r2]) ∧ Kd.R (Kd.int .u8) 5 w' w.heap.size (fun _ => True) v0_ r1 ∧ Below w.heap.size w w' := by
  have HR3 := Z0.mk hr3
  have HC3 := Z0.mk hc3
  clear hr3 hc3
  have HB := Z0.mk (Below.refl w.heap.size w)
  have H : ((culletref16_Params.f k a0 a1 a2).bind fun t435 => (if t435 = 0 then (if (l3.length : Int) < a1 then (some (([] : List Int), 160)) else (if 0 ≤ a1 then (if a1 ≤ (l3.length : Int) then ((some (l3.take (a1 : Int).toNat : List (List Int))).bind fun y436 => ((culletref16_empties.f k y436).bind fun t440 => (if (t440.length : Int) > 0 then (some (([] : List Int), 161)) else ((culletref16_unlike.f k y436 false).bind fun t443 => (if t443 = true then (some (([] : List Int), 162)) else ((culletref16_longest.f k y436).bind fun t444 => (if a0 = 2 then (culletref16_Join.j0 k a1 a4 y436 t444 ((Int.tmod t444 2) == 1)) else (culletref16_Join.j0 k a1 a4 y436 t444 false)))))))) else (none)) else (none))) else (some (([] : List Int), t435)))) = some (r1, r2) := h
  clear h
  replace H := Option.bind_eq_some_iff.mp H
  obtain ⟨t435, A60, H⟩ := H
  try dsimp only at H
  have A6 := Z0.mk A60
  clear A60
  by_cases c7 : t435 = 0
  · rw [if_pos c7] at H
    have c7b0 : (t435 == 0) = true := beq_iff_eq.mpr c7
    have c7b1 : (t435 != 0) = false := bne_eq_false_iff_eq.mpr c7
    clear c7
    by_cases c8 : (l3.length : Int) < a1
    · rw [if_pos c8] at H
      have c8b0 : decide ((l3.length : Int) < a1) = true := decide_eq_true c8
      clear c8
      simp only [Option.some.injEq, Prod.mk.injEq] at H
      obtain ⟨rfl, rfl⟩ := H
      go_enter Try.func47, Try.ntmps47
      go_wp2_with (first | ((with_reducible refine gate_callee (f := 20) rfl ?_); refine goesL_ (some 20) rfl rfl Try.func20 (by kernel_rfl) rfl #[.int .i64 a0, .int .i64 a1, .int .i64 a2] rfl (by (try simp only [List.map_toArray, List.map_cons, List.map_nil]); first | done | rfl | (simp only [List.length_drop, List.length_take]; rfl)) ?_; (with_reducible refine (culletref16_Params.calls k a0 a1 a2 t435 _ A6.out).mono ?_); rintro e w' ⟨rfl, ⟨nd, rfl⟩⟩; refine ⟨_, rfl, ?_⟩))
      go_ret2
      exact ⟨_, by first | rfl | (simp [ewN, ewS] <;> rfl) | (simp [*, ewN, ewS] <;> rfl), by first | exact Kd.R_nil _ _ _ _ _ | exact Kd.N_nil _ _ _ _ _ | exact Kd.V_nil _ _ _ _ _ | exact Kd.Q_nil _ _ _ _ _ | exact Kd.S_nil _ _ _ _ _, by repeat (first | (with_reducible first | exact HB.out | apply bwA | apply bwN | apply bw1) | exact HB.out)⟩
    · rw [if_neg c8] at H
      have c8b0 : decide ((l3.length : Int) < a1) = false := decide_eq_false c8
      clear c8
      by_cases c9 : 0 ≤ a1
      · rw [if_pos c9] at H
        have c9b0 := eq_true c9
        have c9b1 : decide (0 ≤ a1) = true := decide_eq_true c9
        clear c9
        by_cases c10 : a1 ≤ (l3.length : Int)
        · rw [if_pos c10] at H
          have c10b0 := eq_true c10
          have c10b1 : decide (a1 ≤ (l3.length : Int)) = true := decide_eq_true c10
          clear c10
          obtain ⟨y436, hy436⟩ : ∃ y_ : List (List Int), y_ = (l3.take (a1 : Int).toNat) := ⟨_, rfl⟩
          replace H : ((culletref16_empties.f k y436).bind fun t440 => (if (t440.length : Int) > 0 then (some (([] : List Int), 161)) else ((culletref16_unlike.f k y436 false).bind fun t443 => (if t443 = true then (some (([] : List Int), 162)) else ((culletref16_longest.f k y436).bind fun t444 => (if a0 = 2 then (culletref16_Join.j0 k a1 a4 y436 t444 ((Int.tmod t444 2) == 1)) else (culletref16_Join.j0 k a1 a4 y436 t444 false))))))) = some (r1, r2) := by first | (rw [hy436]; with_reducible exact H) | (have H2_ := (Option.bind_some _ _).symm.trans H; rw [hy436]; with_reducible exact H2_) | (have H2_ := (Option.bind_some _ _).symm.trans H; with_reducible exact H2_) | with_reducible exact H | (rw [hy436]; exact H) | exact H
          have Ny436 := Z0.mk hy436
          clear hy436
          replace H := Option.bind_eq_some_iff.mp H
          obtain ⟨t440, A110, H⟩ := H
          try dsimp only at H
          have A11 := Z0.mk A110
          clear A110
          by_cases c12 : (t440.length : Int) > 0
          · rw [if_pos c12] at H
            have c12b0 : decide (0 < (t440.length : Int)) = true := decide_eq_true c12
            have c12b1 : decide (0 < t440.length) = true := decide_eq_true (by omega)
            clear c12
            simp only [Option.some.injEq, Prod.mk.injEq] at H
            obtain ⟨rfl, rfl⟩ := H
            go_enter Try.func47, Try.ntmps47
            go_wp2_with (first | ((with_reducible refine gate_callee (f := 20) rfl ?_); refine goesL_ (some 20) rfl rfl Try.func20 (by kernel_rfl) rfl #[.int .i64 a0, .int .i64 a1, .int .i64 a2] rfl (by (try simp only [List.map_toArray, List.map_cons, List.map_nil]); first | done | rfl | (simp only [List.length_drop, List.length_take]; rfl)) ?_; (with_reducible refine (culletref16_Params.calls k a0 a1 a2 t435 _ A6.out).mono ?_); rintro e w' ⟨rfl, ⟨nd, rfl⟩⟩; refine ⟨_, rfl, ?_⟩; have q13 : (a1 : Int) ≤ ((l3.length : Int) : Int) := of_decide_eq_true (by first | (with_reducible assumption) | assumption); obtain ⟨i013, hi013, _, hsz13, _⟩ := info_parts info27; have hroom13 : l3.length ≤ c3 := HC3.out; have hC13 : Kd.C (Kd.slice 5 (Kd.int .u8)) _ A3 l3.length l3 := HR3.out; have hcut13 := cut_to (P := Try.prog) 22 27 .i64 Try.underlying22 hi013 A3 l3.length c3 a1 (of_decide_eq_true (by first | (with_reducible assumption) | assumption)) q13 hroom13; have hr13 := Kd.C_take (m := (a1 : Int).toNat) hC13 (by omega); have hy13 : y436.length = (a1 : Int).toNat := (by rw [Ny436.out, List.length_take]; omega); rw [← Ny436.out] at hr13; rw [← hy13] at hcut13; have HR439 := Z0.mk hr13; have HC439 := Z0.mk (show y436.length ≤ c3 from by omega); clear hr13 hC13 hroom13 hi013 hsz13; have KY13 := Z0.mk hy13; clear hy13; replace q13 := eq_true q13) | ((with_reducible refine gate_callee (f := 48) rfl ?_); refine goesL_ (some 32) rfl rfl Try.func48 (by kernel_rfl) rfl #[.slice A3 y436.length c3] rfl (by (try simp only [List.map_toArray, List.map_cons, List.map_nil]); first | done | rfl | (simp only [List.length_drop, List.length_take]; rfl)) ?_; (with_reducible refine (culletref16_empties.calls k _ _ y436 t440 _ ?side1 ?side2 A11.out).mono ?_); (case side1 => repeat (first | exact HR439.out | (with_reducible refine Kd.C_alloc ?_ _) | (with_reducible refine Kd.C_drewN ?_ _) | (with_reducible refine Kd.C_drew ?_))); (case side2 => exact HC439.out); rintro e w14 ⟨v441, rfl, ho0, hb⟩; refine ⟨_, rfl, ?_⟩; have n0_ := Z0.mk (Kd.R_lower ho0 (bwZ (by repeat (first | (with_reducible first | exact HB.out | apply bwA | apply bwN | apply bw1) | exact HB.out)))); have n1_ := Z0.mk (bwT (by repeat (first | (with_reducible first | exact HB.out | apply bwA | apply bwN | apply bw1) | exact HB.out)) hb); clear HB; have HO442 := n0_; have HB := n1_; clear n0_ n1_; (try clear hb); (try clear hb2); (try clear hk); (try clear hi); (try clear ho0); obtain ⟨Ao15, co15, eo15⟩ := Kd.R_slice HO442.out; subst eo15))
            go_ret2
            exact ⟨_, by first | rfl | (simp [ewN, ewS] <;> rfl) | (simp [*, ewN, ewS] <;> rfl), by first | exact Kd.R_nil _ _ _ _ _ | exact Kd.N_nil _ _ _ _ _ | exact Kd.V_nil _ _ _ _ _ | exact Kd.Q_nil _ _ _ _ _ | exact Kd.S_nil _ _ _ _ _, by repeat (first | (with_reducible first | exact HB.out | apply bwA | apply bwN | apply bw1) | exact HB.out)⟩
          · rw [if_neg c12] at H
            have c12b0 : decide (0 < (t440.length : Int)) = false := decide_eq_false c12
            have c12b1 : decide (0 < t440.length) = false := decide_eq_false (by omega)
            clear c12
            replace H := Option.bind_eq_some_iff.mp H
            obtain ⟨t443, A160, H⟩ := H
            try dsimp only at H
            have A16 := Z0.mk A160
            clear A160
            by_cases c17 : t443 = true
            · subst c17
              have H1 : (some (([] : List Int), 162)) = some (r1, r2) := by rw [if_pos rfl] at H; exact H
              clear H
              have H := H1
              clear H1
              simp only [Option.some.injEq, Prod.mk.injEq] at H
              obtain ⟨rfl, rfl⟩ := H
              go_enter Try.func47, Try.ntmps47
              go_wp2_with (first | ((with_reducible refine gate_callee (f := 20) rfl ?_); refine goesL_ (some 20) rfl rfl Try.func20 (by kernel_rfl) rfl #[.int .i64 a0, .int .i64 a1, .int .i64 a2] rfl (by (try simp only [List.map_toArray, List.map_cons, List.map_nil]); first | done | rfl | (simp only [List.length_drop, List.length_take]; rfl)) ?_; (with_reducible refine (culletref16_Params.calls k a0 a1 a2 t435 _ A6.out).mono ?_); rintro e w' ⟨rfl, ⟨nd, rfl⟩⟩; refine ⟨_, rfl, ?_⟩; have q18 : (a1 : Int) ≤ ((l3.length : Int) : Int) := of_decide_eq_true (by first | (with_reducible assumption) | assumption); obtain ⟨i018, hi018, _, hsz18, _⟩ := info_parts info27; have hroom18 : l3.length ≤ c3 := HC3.out; have hC18 : Kd.C (Kd.slice 5 (Kd.int .u8)) _ A3 l3.length l3 := HR3.out; (try clear hcut13); have hcut18 := cut_to (P := Try.prog) 22 27 .i64 Try.underlying22 hi018 A3 l3.length c3 a1 (of_decide_eq_true (by first | (with_reducible assumption) | assumption)) q18 hroom18; have hr18 := Kd.C_take (m := (a1 : Int).toNat) hC18 (by omega); have hy18 : y436.length = (a1 : Int).toNat := (by rw [Ny436.out, List.length_take]; omega); rw [← Ny436.out] at hr18; rw [← hy18] at hcut18; have HR439 := Z0.mk hr18; have HC439 := Z0.mk (show y436.length ≤ c3 from by omega); clear hr18 hC18 hroom18 hi018 hsz18; have KY18 := Z0.mk hy18; clear hy18; replace q18 := eq_true q18) | ((with_reducible refine gate_callee (f := 48) rfl ?_); refine goesL_ (some 32) rfl rfl Try.func48 (by kernel_rfl) rfl #[.slice A3 y436.length c3] rfl (by (try simp only [List.map_toArray, List.map_cons, List.map_nil]); first | done | rfl | (simp only [List.length_drop, List.length_take]; rfl)) ?_; (with_reducible refine (culletref16_empties.calls k _ _ y436 t440 _ ?side1 ?side2 A11.out).mono ?_); (case side1 => repeat (first | exact HR439.out | (with_reducible refine Kd.C_alloc ?_ _) | (with_reducible refine Kd.C_drewN ?_ _) | (with_reducible refine Kd.C_drew ?_))); (case side2 => exact HC439.out); rintro e w19 ⟨v441, rfl, ho0, hb⟩; refine ⟨_, rfl, ?_⟩; have n0_ := Z0.mk (Kd.R_lower ho0 (bwZ (by repeat (first | (with_reducible first | exact HB.out | apply bwA | apply bwN | apply bw1) | exact HB.out)))); have n1_ := Z0.mk (bwT (by repeat (first | (with_reducible first | exact HB.out | apply bwA | apply bwN | apply bw1) | exact HB.out)) hb); clear HB; have HO442 := n0_; have HB := n1_; clear n0_ n1_; (try clear hb); (try clear hb2); (try clear hk); (try clear hi); (try clear ho0); obtain ⟨Ao20, co20, eo20⟩ := Kd.R_slice HO442.out; subst eo20) | ((with_reducible refine gate_callee (f := 49) rfl ?_); refine goesL_ (some 36) rfl rfl Try.func49 (by kernel_rfl) rfl #[.slice A3 y436.length c3, .bool false] rfl (by (try simp only [List.map_toArray, List.map_cons, List.map_nil]); first | done | rfl | (simp only [List.length_drop, List.length_take]; rfl)) ?_; (with_reducible refine (culletref16_unlike.calls k _ _ y436 false true _ ?side1 ?side2 A16.out).mono ?_); (case side1 => repeat (first | exact (Kd.C_below HR439.out HB.out) | (with_reducible refine Kd.C_alloc ?_ _) | (with_reducible refine Kd.C_drewN ?_ _) | (with_reducible refine Kd.C_drew ?_))); (case side2 => exact HC439.out); rintro e w' ⟨rfl, ⟨nd, rfl⟩⟩; refine ⟨_, rfl, ?_⟩))
              go_ret2
              exact ⟨_, by first | rfl | (simp [ewN, ewS] <;> rfl) | (simp [*, ewN, ewS] <;> rfl), by first | exact Kd.R_nil _ _ _ _ _ | exact Kd.N_nil _ _ _ _ _ | exact Kd.V_nil _ _ _ _ _ | exact Kd.Q_nil _ _ _ _ _ | exact Kd.S_nil _ _ _ _ _, by repeat (first | (with_reducible first | exact HB.out | apply bwA | apply bwN | apply bw1) | exact HB.out)⟩
            · replace c17 := Bool.eq_false_iff.mpr c17
              subst c17
              have H1 : ((culletref16_longest.f k y436).bind fun t444 => (if a0 = 2 then (culletref16_Join.j0 k a1 a4 y436 t444 ((Int.tmod t444 2) == 1)) else (culletref16_Join.j0 k a1 a4 y436 t444 false))) = some (r1, r2) := by rw [if_neg (show ¬ (false = true) by decide)] at H; exact H
              clear H
              have H := H1
              clear H1
              replace H := Option.bind_eq_some_iff.mp H
              obtain ⟨t444, A210, H⟩ := H
              try dsimp only at H
              have A21 := Z0.mk A210
              clear A210
              have HC22 := Z0.mk H
              clear H
              go_enter Try.func47, Try.ntmps47
              go_upto_region 12 with (first | ((with_reducible refine gate_callee (f := 20) rfl ?_); refine goesL_ (some 20) rfl rfl Try.func20 (by kernel_rfl) rfl #[.int .i64 a0, .int .i64 a1, .int .i64 a2] rfl (by (try simp only [List.map_toArray, List.map_cons, List.map_nil]); first | done | rfl | (simp only [List.length_drop, List.length_take]; rfl)) ?_; (with_reducible refine (culletref16_Params.calls k a0 a1 a2 t435 _ A6.out).mono ?_); rintro e w' ⟨rfl, ⟨nd, rfl⟩⟩; refine ⟨_, rfl, ?_⟩; have q23 : (a1 : Int) ≤ ((l3.length : Int) : Int) := of_decide_eq_true (by first | (with_reducible assumption) | assumption); obtain ⟨i023, hi023, _, hsz23, _⟩ := info_parts info27; have hroom23 : l3.length ≤ c3 := HC3.out; have hC23 : Kd.C (Kd.slice 5 (Kd.int .u8)) _ A3 l3.length l3 := HR3.out; (try clear hcut18); have hcut23 := cut_to (P := Try.prog) 22 27 .i64 Try.underlying22 hi023 A3 l3.length c3 a1 (of_decide_eq_true (by first | (with_reducible assumption) | assumption)) q23 hroom23; have hr23 := Kd.C_take (m := (a1 : Int).toNat) hC23 (by omega); have hy23 : y436.length = (a1 : Int).toNat := (by rw [Ny436.out, List.length_take]; omega); rw [← Ny436.out] at hr23; rw [← hy23] at hcut23; have HR439 := Z0.mk hr23; have HC439 := Z0.mk (show y436.length ≤ c3 from by omega); clear hr23 hC23 hroom23 hi023 hsz23; have KY23 := Z0.mk hy23; clear hy23; replace q23 := eq_true q23) | ((with_reducible refine gate_callee (f := 48) rfl ?_); refine goesL_ (some 32) rfl rfl Try.func48 (by kernel_rfl) rfl #[.slice A3 y436.length c3] rfl (by (try simp only [List.map_toArray, List.map_cons, List.map_nil]); first | done | rfl | (simp only [List.length_drop, List.length_take]; rfl)) ?_; (with_reducible refine (culletref16_empties.calls k _ _ y436 t440 _ ?side1 ?side2 A11.out).mono ?_); (case side1 => repeat (first | exact HR439.out | (with_reducible refine Kd.C_alloc ?_ _) | (with_reducible refine Kd.C_drewN ?_ _) | (with_reducible refine Kd.C_drew ?_))); (case side2 => exact HC439.out); rintro e w24 ⟨v441, rfl, ho0, hb⟩; refine ⟨_, rfl, ?_⟩; have n0_ := Z0.mk (Kd.R_lower ho0 (bwZ (by repeat (first | (with_reducible first | exact HB.out | apply bwA | apply bwN | apply bw1) | exact HB.out)))); have n1_ := Z0.mk (bwT (by repeat (first | (with_reducible first | exact HB.out | apply bwA | apply bwN | apply bw1) | exact HB.out)) hb); clear HB; have HO442 := n0_; have HB := n1_; clear n0_ n1_; (try clear hb); (try clear hb2); (try clear hk); (try clear hi); (try clear ho0); obtain ⟨Ao25, co25, eo25⟩ := Kd.R_slice HO442.out; subst eo25) | ((with_reducible refine gate_callee (f := 49) rfl ?_); refine goesL_ (some 36) rfl rfl Try.func49 (by kernel_rfl) rfl #[.slice A3 y436.length c3, .bool false] rfl (by (try simp only [List.map_toArray, List.map_cons, List.map_nil]); first | done | rfl | (simp only [List.length_drop, List.length_take]; rfl)) ?_; (with_reducible refine (culletref16_unlike.calls k _ _ y436 false false _ ?side1 ?side2 A16.out).mono ?_); (case side1 => repeat (first | exact (Kd.C_below HR439.out HB.out) | (with_reducible refine Kd.C_alloc ?_ _) | (with_reducible refine Kd.C_drewN ?_ _) | (with_reducible refine Kd.C_drew ?_))); (case side2 => exact HC439.out); rintro e w' ⟨rfl, ⟨nd, rfl⟩⟩; refine ⟨_, rfl, ?_⟩) | ((with_reducible refine gate_callee (f := 50) rfl ?_); refine goesL_ (some 38) rfl rfl Try.func50 (by kernel_rfl) rfl #[.slice A3 y436.length c3] rfl (by (try simp only [List.map_toArray, List.map_cons, List.map_nil]); first | done | rfl | (simp only [List.length_drop, List.length_take]; rfl)) ?_; (with_reducible refine (culletref16_longest.calls k _ _ y436 t444 _ ?side1 ?side2 A21.out).mono ?_); (case side1 => repeat (first | exact (Kd.C_below HR439.out (by repeat (first | (with_reducible first | exact HB.out | apply bwA | apply bwN | apply bw1) | exact HB.out))) | (with_reducible refine Kd.C_alloc ?_ _) | (with_reducible refine Kd.C_drewN ?_ _) | (with_reducible refine Kd.C_drew ?_))); (case side2 => exact HC439.out); rintro e w' ⟨rfl, ⟨nd, rfl⟩⟩; refine ⟨_, rfl, ?_⟩))
              (try simp only [Act.put, List.setIfInBounds_toArray, List.set_cons_zero, List.set_cons_succ])
              go_cut [45] (fun v45 wc => ∃ (kq : Nat) (x45_21 : Bool), v45 = .bool x45_21 ∧ Z0 (culletref16_Join.j0 kq a1 a4 y436 t444 x45_21 = some (r1, r2)) ∧ Z0 (kq ≤ k) ∧ Z0 (Below w.heap.size w wc))
              case first =>
                have H := HC22.out
                clear HC22
                by_cases c26 : a0 = 2
                · rw [if_pos c26] at H
                  have c26b0 : (a0 == 2) = true := beq_iff_eq.mpr c26
                  have c26b1 : (a0 != 2) = false := bne_eq_false_iff_eq.mpr c26
                  clear c26
                  (first | rw [c26b0] | (simp only [i64_w, i32_w]; rw [c26b0]) | skip)
                  have H' := Z0.mk H
                  clear H
                  go_wp2
                  go_meet
                  case rel => exact ⟨_, (((Int.tmod t444 2) == 1)), (by first | rfl | (simp; done) | (simp [*]; done)), H', ⟨by first | omega | exact Nat.le_refl _⟩, ⟨by repeat (first | (with_reducible first | exact HB.out | apply bwA | apply bwN | apply bw1) | exact HB.out)⟩⟩
                · rw [if_neg c26] at H
                  have c26b0 : (a0 == 2) = false := beq_eq_false_iff_ne.mpr c26
                  have c26b1 : (a0 != 2) = true := bne_iff_ne.mpr c26
                  (first | rw [c26b0] | (simp only [i64_w, i32_w]; rw [c26b0]) | skip)
                  have H' := Z0.mk H
                  clear H
                  go_wp2
                  go_meet
                  case rel => exact ⟨_, (false), (by first | rfl | (simp; done) | (simp [*]; done)), H', ⟨by first | omega | exact Nat.le_refl _⟩, ⟨by repeat (first | (with_reducible first | exact HB.out | apply bwA | apply bwN | apply bw1) | exact HB.out)⟩⟩
              case rest =>
                clear HC22
                try clear c1
                try clear q1
                try clear c2
                try clear p2
                try clear q2
                try clear c3
                try clear c4
                try clear c5
                try clear c7
                try clear c7b0
                try clear c7b1
                try clear c8
                try clear c8b0
                try clear c9
                try clear c9b0
                try clear c9b1
                try clear c10
                try clear c10b0
                try clear c10b1
                try clear c12
                try clear c12b0
                try clear c12b1
                try clear q13
                try clear c17
                try clear q18
                try clear c20
                try clear q23
                try clear c26
                try clear c26b0
                try clear c26b1
                try clear q13
                try clear q18
                try clear q23
                obtain ⟨kq, x45_21, rfl, HA, HJ21, HB⟩ := hcut
                cases kq with
                | zero => exact absurd HA.out (by simp [culletref16_Join.j0])
                | succ kj21 =>
                  have H := HA.out
                  clear HA
                  simp only [culletref16_Join.j0] at H
                  by_cases c27 : x45_21 = true
                  · subst c27
                    have H1 : (some (([] : List Int), 8)) = some (r1, r2) := by rw [if_pos rfl] at H; exact H
                    clear H
                    have H := H1
                    clear H1
                    simp only [Option.some.injEq, Prod.mk.injEq] at H
                    obtain ⟨rfl, rfl⟩ := H
                    go_wp2
                    go_ret2
                    exact ⟨_, by first | rfl | (simp [ewN, ewS] <;> rfl) | (simp [*, ewN, ewS] <;> rfl), by first | exact Kd.R_nil _ _ _ _ _ | exact Kd.N_nil _ _ _ _ _ | exact Kd.V_nil _ _ _ _ _ | exact Kd.Q_nil _ _ _ _ _ | exact Kd.S_nil _ _ _ _ _, by repeat (first | (with_reducible first | exact HB.out | apply bwA | apply bwN | apply bw1) | exact HB.out)⟩
                  · replace c27 := Bool.eq_false_iff.mpr c27
                    subst c27
                    have H1 : (if a4 < 0 then (culletref16_Join.j1 kj21 a4 y436 t444 true) else (culletref16_Join.j1 kj21 a4 y436 t444 (decide (a4 > (wrap64 (a1 * t444)))))) = some (r1, r2) := by rw [if_neg (show ¬ (false = true) by decide)] at H; exact H
                    clear H
                    have H := H1
                    clear H1
                    have HC28 := Z0.mk H
                    clear H
                    go_upto_region 14 with (fail)
                    go_cut [54] (fun v54 wc => ∃ (kq : Nat) (x54_27 : Bool), v54 = .bool x54_27 ∧ Z0 (culletref16_Join.j1 kq a4 y436 t444 x54_27 = some (r1, r2)) ∧ Z0 (kq ≤ kj21) ∧ Z0 (Below w.heap.size w wc))
                    case first =>
                      have H := HC28.out
                      clear HC28
                      by_cases c29 : a4 < 0
                      · rw [if_pos c29] at H
                        have c29b0 : decide (a4 < 0) = true := decide_eq_true c29
                        clear c29
                        (first | rw [c29b0] | (simp only [i64_w, i32_w]; rw [c29b0]) | skip)
                        have H' := Z0.mk H
                        clear H
                        go_wp2
                        go_meet
                        case rel => exact ⟨_, (true), (by first | rfl | (simp; done) | (simp [*]; done)), H', ⟨by have := HJ21.out; first | omega | exact Nat.le_refl _⟩, ⟨by repeat (first | (with_reducible first | exact HB.out | apply bwA | apply bwN | apply bw1) | exact HB.out)⟩⟩
                      · rw [if_neg c29] at H
                        have c29b0 : decide (a4 < 0) = false := decide_eq_false c29
                        clear c29
                        (first | rw [c29b0] | (simp only [i64_w, i32_w]; rw [c29b0]) | skip)
                        have H' := Z0.mk H
                        clear H
                        go_wp2
                        go_meet
                        case rel => exact ⟨_, (decide (a4 > (wrap64 (a1 * t444)))), (by first | rfl | (simp; done) | (simp [*]; done)), H', ⟨by have := HJ21.out; first | omega | exact Nat.le_refl _⟩, ⟨by repeat (first | (with_reducible first | exact HB.out | apply bwA | apply bwN | apply bw1) | exact HB.out)⟩⟩
                    case rest =>
                      clear HC28
                      try clear c1
                      try clear q1
                      try clear c2
                      try clear p2
                      try clear q2
                      try clear c3
                      try clear c4
                      try clear c5
                      try clear p6
                      try clear c7
                      try clear c7b0
                      try clear c7b1
                      try clear c8
                      try clear c8b0
                      try clear c9
                      try clear c9b0
                      try clear c9b1
                      try clear c10
                      try clear c10b0
                      try clear c10b1
                      try clear c12
                      try clear c12b0
                      try clear c12b1
                      try clear q13
                      try clear c17
                      try clear q18
                      try clear c20
                      try clear q23
                      try clear c26
                      try clear c26b0
                      try clear c26b1
                      try clear c27
                      try clear c29
                      try clear c29b0
                      try clear p2
                      try clear q1
                      try clear q13
                      try clear q18
                      try clear q2
                      try clear q23
                      obtain ⟨kq, x54_27, rfl, HA, HJ27, HB⟩ := hcut
                      cases kq with
                      | zero => exact absurd HA.out (by simp [culletref16_Join.j1])
                      | succ kj27 =>
                        have H := HA.out
                        clear HA
                        simp only [culletref16_Join.j1] at H
                        by_cases c30 : x54_27 = true
                        · subst c30
                          have H1 : (some (([] : List Int), 164)) = some (r1, r2) := by rw [if_pos rfl] at H; exact H
                          clear H
                          have H := H1
                          clear H1
                          simp only [Option.some.injEq, Prod.mk.injEq] at H
                          obtain ⟨rfl, rfl⟩ := H
                          go_wp2
                          go_ret2
                          exact ⟨_, by first | rfl | (simp [ewN, ewS] <;> rfl) | (simp [*, ewN, ewS] <;> rfl), by first | exact Kd.R_nil _ _ _ _ _ | exact Kd.N_nil _ _ _ _ _ | exact Kd.V_nil _ _ _ _ _ | exact Kd.Q_nil _ _ _ _ _ | exact Kd.S_nil _ _ _ _ _, by repeat (first | (with_reducible first | exact HB.out | apply bwA | apply bwN | apply bw1) | exact HB.out)⟩
                        · replace c30 := Bool.eq_false_iff.mpr c30
                          subst c30
                          have H1 : (if 0 ≤ a4 then (if (a4 : Int).toNat ≤ 281474976710656 then (culletref16_Join.l0 kj27 a4 y436 t444 (List.replicate (a4 : Int).toNat 0) 0) else (none)) else (none)) = some (r1, r2) := by rw [if_neg (show ¬ (false = true) by decide)] at H; exact H
                          clear H
                          have H := H1
                          clear H1
                          by_cases c31 : 0 ≤ a4
                          · rw [if_pos c31] at H
                            have c31b0 := eq_true c31
                            have c31b1 : decide (0 ≤ a4) = true := decide_eq_true c31
                            clear c31
                            by_cases c32 : (a4 : Int).toNat ≤ 281474976710656
                            · rw [if_pos c32] at H
                              have c32b0 := eq_true c32
                              have c32b1 : decide ((a4 : Int).toNat ≤ 281474976710656) = true := decide_eq_true c32
                              clear c32
                              obtain ⟨y445, hy445⟩ : ∃ y_ : List Int, y_ = (List.replicate (a4 : Int).toNat 0) := ⟨_, rfl⟩
                              replace H : (culletref16_Join.l0 kj27 a4 y436 t444 y445 0) = some (r1, r2) := by first | (rw [hy445]; with_reducible exact H) | (have H2_ := (Option.bind_some _ _).symm.trans H; rw [hy445]; with_reducible exact H2_) | (have H2_ := (Option.bind_some _ _).symm.trans H; with_reducible exact H2_) | with_reducible exact H | (rw [hy445]; exact H) | exact H
                              have Ny445 := Z0.mk hy445
                              clear hy445
                              have H' := Z0.mk H
                              clear H
                              go_wp2_with (first | ((with_reducible refine gate_dst (N := 56) rfl ?_); refine Kd.R_make (Kd.int .u8) _ 5 rfl (N := 56) rfl 27 _ _ rfl a4 rfl rfl Try.underlying27 (.int .u8 0) 1 info5 rfl (by decide) (by omega) 0 (ok := fun _ => True) (okp := fun _ => True) rfl (fun _ hk => hk) trivial (of_decide_eq_true (by first | (with_reducible assumption) | assumption)) (Nat.le_trans (Nat.mul_le_mul_right _ (of_decide_eq_true (by first | (with_reducible assumption) | assumption) : a4.toNat ≤ 281474976710656)) (by omega)) (Below.refl _ _) (Nat.le_refl _) ?_; intro v446 w33 ho34 hb hg_ hnew_; clear hg_ hnew_; (first | rw [← Ny445.out] at ho34 | (simp only [Int.reduceToNat] at ho34; rw [← Ny445.out] at ho34)); have n0_ := Z0.mk (Kd.R_lower ho34 (bwZ (by repeat (first | (with_reducible first | exact HB.out | apply bwA | apply bwN | apply bw1) | exact HB.out)))); have n1_ := Z0.mk (bwT (by repeat (first | (with_reducible first | exact HB.out | apply bwA | apply bwN | apply bw1) | exact HB.out)) hb); clear HB; have HO447 := n0_; have HB := n1_; clear n0_ n1_; clear hb ho34))
                              go_loopg [16] kj27 (fun kq v16 w' => ∃ (x15_3 : List Int) (x16_3 : Int), v16 = .int .i64 x16_3 ∧ Z0 (culletref16_Join.l0 kq a4 y436 t444 x15_3 x16_3 = some (r1, r2)) ∧ Z0 (kq ≤ kj27) ∧ Z0 (Kd.R (Kd.int .u8) 5 w' w.heap.size (fun _ => True) v446 x15_3) ∧ Z0 (Below w.heap.size w w'))
                              case atStart => exact ⟨(y445), (0), (by first | rfl | (simp; done) | (simp [*]; done)), H', ⟨Nat.le_refl _⟩, ⟨by (with_reducible repeat (first | apply Kd.R_alloc | apply Kd.R_drewN | apply Kd.R_drew)); exact HO447.out⟩, ⟨by repeat (first | (with_reducible first | exact HB.out | apply bwA | apply bwN | apply bw1) | exact HB.out)⟩⟩
                              case round =>
                                clear H'
                                try clear c1
                                try clear q1
                                try clear c2
                                try clear p2
                                try clear q2
                                try clear c3
                                try clear c4
                                try clear c5
                                try clear p6
                                try clear c7
                                try clear c7b0
                                try clear c7b1
                                try clear c8
                                try clear c8b0
                                try clear c9
                                try clear c9b0
                                try clear c9b1
                                try clear c10
                                try clear c10b0
                                try clear c10b1
                                try clear c12
                                try clear c12b0
                                try clear c12b1
                                try clear q13
                                try clear c17
                                try clear q18
                                try clear c20
                                try clear q23
                                try clear c26
                                try clear c26b0
                                try clear c26b1
                                try clear c27
                                try clear c29
                                try clear c29b0
                                try clear c30
                                try clear c31
                                try clear c31b0
                                try clear c31b1
                                try clear c32
                                try clear c32b0
                                try clear c32b1
                                try clear p2
                                try clear p6
                                try clear q1
                                try clear q13
                                try clear q18
                                try clear q2
                                try clear q23
                                obtain ⟨x15_3, x16_3, rfl, HA, HK3, HO_15, HB⟩ := hrel
                                cases gk with
                                | zero => exact absurd HA.out (by simp [culletref16_Join.l0])
                                | succ k3 =>
                                  have H := HA.out
                                  clear HA
                                  simp only [culletref16_Join.l0] at H
                                  by_cases c35 : x16_3 < a4
                                  · rw [if_pos c35] at H
                                    have c35b0 : decide (x16_3 < a4) = true := decide_eq_true c35
                                    clear c35
                                    by_cases c36 : t444 = 0
                                    · rw [if_pos c36] at H
                                      exact absurd H (by simp)
                                    · rw [if_neg c36] at H
                                      have c36b0 : (t444 == 0) = false := beq_eq_false_iff_ne.mpr c36
                                      have c36b1 : (t444 != 0) = true := bne_iff_ne.mpr c36
                                      obtain ⟨ji37, hji37⟩ : ∃ j_ : Int, (wrap64 (Int.tdiv x16_3 t444)) = j_ := ⟨_, rfl⟩
                                      replace H : (if 0 ≤ (ji37) then (if (ji37) < (y436.length : Int) then (if 0 ≤ (Int.tmod x16_3 t444) then (if (Int.tmod x16_3 t444) < ((rd_L2 y436 (ji37)).length : Int) then (if 0 ≤ x16_3 then (if x16_3 < (x15_3.length : Int) then (culletref16_Join.l0 k3 a4 y436 t444 (x15_3.set (x16_3 : Int).toNat (rd (rd_L2 y436 (ji37)) (Int.tmod x16_3 t444))) (wrap64 (x16_3 + 1))) else (none)) else (none)) else (none)) else (none)) else (none)) else (none)) = some (r1, r2) := by first | (rw [hji37] at H; exact H) | (simp only [hji37] at H ⊢; exact H)
                                      have hji37w : (IntKind.i64.wrap (Int.tdiv x16_3 t444)) = ji37 := (i64_w _).trans hji37
                                      by_cases c38 : 0 ≤ (ji37)
                                      · rw [if_pos c38] at H
                                        have c38b0 : decide (0 ≤ (ji37)) = true := decide_eq_true c38
                                        clear c38
                                        by_cases c39 : (ji37) < (y436.length : Int)
                                        · rw [if_pos c39] at H
                                          have c39b0 : decide ((ji37) < (y436.length : Int)) = true := decide_eq_true c39
                                          clear c39
                                          obtain ⟨ji40, hji40⟩ : ∃ j_ : Int, (Int.tmod x16_3 t444) = j_ := ⟨_, rfl⟩
                                          replace H : (if 0 ≤ (ji40) then (if (ji40) < ((rd_L2 y436 (ji37)).length : Int) then (if 0 ≤ x16_3 then (if x16_3 < (x15_3.length : Int) then (culletref16_Join.l0 k3 a4 y436 t444 (x15_3.set (x16_3 : Int).toNat (rd (rd_L2 y436 (ji37)) (ji40))) (wrap64 (x16_3 + 1))) else (none)) else (none)) else (none)) else (none)) = some (r1, r2) := by first | (rw [hji40] at H; exact H) | (simp only [hji40] at H ⊢; exact H)
                                          by_cases c41 : 0 ≤ (ji40)
                                          · rw [if_pos c41] at H
                                            have c41b0 : decide (0 ≤ (ji40)) = true := decide_eq_true c41
                                            clear c41
                                            by_cases c42 : (ji40) < ((rd_L2 y436 (ji37)).length : Int)
                                            · rw [if_pos c42] at H
                                              have c42b0 : decide ((ji40) < ((rd_L2 y436 (ji37)).length : Int)) = true := decide_eq_true c42
                                              clear c42
                                              by_cases c43 : 0 ≤ x16_3
                                              · rw [if_pos c43] at H
                                                have c43b0 : decide (0 ≤ x16_3) = true := decide_eq_true c43
                                                clear c43
                                                by_cases c44 : x16_3 < (x15_3.length : Int)
                                                · rw [if_pos c44] at H
                                                  have c44b0 : decide (x16_3 < (x15_3.length : Int)) = true := decide_eq_true c44
                                                  clear c44
                                                  obtain ⟨y450, hy450⟩ : ∃ y_ : List Int, y_ = (x15_3.set (x16_3 : Int).toNat (rd (rd_L2 y436 (ji37)) (ji40))) := ⟨_, rfl⟩
                                                  replace H : (culletref16_Join.l0 k3 a4 y436 t444 y450 (wrap64 (x16_3 + 1))) = some (r1, r2) := by first | (rw [hy450]; with_reducible exact H) | (have H2_ := (Option.bind_some _ _).symm.trans H; rw [hy450]; with_reducible exact H2_) | (have H2_ := (Option.bind_some _ _).symm.trans H; with_reducible exact H2_) | with_reducible exact H | (rw [hy450]; exact H) | exact H
                                                  have Ny450 := Z0.mk hy450
                                                  clear hy450
                                                  have H' := Z0.mk H
                                                  clear H
                                                  try go_wp2
                                                  have n0_ := Z0.mk (Kd.R_drew HO_15.out)
                                                  have n1_ := Z0.mk (bw1 HB.out)
                                                  clear HO_15
                                                  clear HB
                                                  have HO_15 := n0_
                                                  have HB := n1_
                                                  clear n0_ n1_
                                                  have p448 : 0 ≤ ((ji37) : Int) := of_decide_eq_true (by first | (with_reducible assumption) | assumption)
                                                  have q448 : (ji37) < (y436.length : Int) := of_decide_eq_true (by first | (with_reducible assumption) | assumption)
                                                  obtain ⟨ad448, A448_0, c448_0, e448, hx448_0, hl448_0, hi448_0⟩ := at_L2 HR439.out (ji37) p448 q448
                                                  have hw448_0 := hx448_0
                                                  cases e448
                                                  replace hx448_0 := (HB.out.cell (World.block_lt_of_cell? w _ hx448_0)).trans hx448_0
                                                  have HR448_0 := Z0.mk hi448_0
                                                  have HC448_0 := Z0.mk hl448_0
                                                  clear hi448_0 hl448_0
                                                  replace p448 := eq_true p448
                                                  replace q448 := eq_true q448
                                                  have p449 : 0 ≤ ((ji40) : Int) := of_decide_eq_true (by first | (with_reducible assumption) | assumption)
                                                  have q449 : (ji40) < ((rd_L2 y436 (ji37)).length : Int) := of_decide_eq_true (by first | (with_reducible assumption) | assumption)
                                                  obtain ⟨ad449, e449, hx449_0⟩ := Kd.at_int HR448_0.out (ji40) p449 q449
                                                  have hw449_0 := hx449_0
                                                  cases e449
                                                  replace hx449_0 := (HB.out.cell (World.block_lt_of_cell? w _ hx449_0)).trans hx449_0
                                                  replace p449 := eq_true p449
                                                  replace q449 := eq_true q449
                                                  have p45 : 0 ≤ (x16_3 : Int) := of_decide_eq_true (by first | (with_reducible assumption) | assumption)
                                                  have q45 : (x16_3 : Int) < ((x15_3.length : Int) : Int) := of_decide_eq_true (by first | (with_reducible assumption) | assumption)
                                                  obtain ⟨go45, co45, eo45, gb45, gl45, cl45, HG45⟩ := Kd.R_form HO_15.out (by omega)
                                                  (first | cases eo45 | (injection eo45 with ea_ en_ ec_; (first | subst ea_ | (injection ea_ with ea_; subst ea_)); subst ec_; clear en_))
                                                  have GB45 := Z0.mk gb45
                                                  have GG45 := Z0.mk HG45
                                                  clear gb45 gl45 HG45
                                                  obtain ⟨hx45_0, hf45_0⟩ := Kd.R_celln 0 HO_15.out (x16_3 : Int) p45 q45
                                                  replace p45 := eq_true p45
                                                  replace q45 := eq_true q45
                                                  have HP47 := Kd.R_putn HO_15.out (x16_3 : Int) (rd (rd_L2 y436 (ji37)) (ji40))
                                                  rw [← Ny450.out] at HP47
                                                  have HQ47 := Z0.mk HP47
                                                  clear HP47
                                                  refine start_ (n := 15) (S := fun w' => w'.cell? (ad448.add ((ji37)).toNat) = some (.slice (some ad449) (rd_L2 y436 (ji37)).length c448_0) ∧ w'.cell? (ad449.add ((ji40)).toNat) = some (.int .u8 (rd (rd_L2 y436 (ji37)) (ji40)))) (ds := [14]) #[false, false, false, false, false, false, false, false, false, false, false, false, false, false, false] (by kernel_rfl) rfl rfl ⟨((HB.out.cell (World.block_lt_of_cell? w _ hw448_0)).trans hw448_0), ((HB.out.cell (World.block_lt_of_cell? w _ hw449_0)).trans hw449_0)⟩ (fun hHeld => ?_); refine with_tabW culletref16_Join.tab20 culletref16_Join.bits20 (fun HT_ HW_ => ?_)
                                                  generalize wr.drew = w46 at HO_15 HB GG45 HQ47 HR448_0 hf45_0 hx448_0 hx449_0 hx45_0 hHeld ⊢
                                                  refine pure_ (i := 0) (N := some 62) (v := ?_) (a' := ?_) #[true, false, false, false, false, false, false, false, false, false, false, false, false, false, false] rfl rfl (any_of HT_.out (by kernel_rfl)) (fun _ _ _ h => h) (Or.inl ⟨by rfl, ?_⟩) ?_ ?_
                                                  rotate_left
                                                  · intro w'
                                                    go_simp
                                                    with_reducible rfl
                                                  rotate_left
                                                  · simp only [Act.put, List.setIfInBounds_toArray, List.set_cons_zero, List.set_cons_succ, i64_w, i32_w]
                                                    rfl
                                                  refine pure_ (i := 1) (N := some 63) (v := ?_) (a' := ?_) #[true, true, false, false, false, false, false, false, false, false, false, false, false, false, false] rfl rfl (any_of HT_.out (by kernel_rfl)) (fun _ _ _ h => h) (Or.inl ⟨by rfl, ?_⟩) ?_ ?_
                                                  rotate_left
                                                  · intro w'
                                                    go_simp
                                                    with_reducible rfl
                                                  rotate_left
                                                  · simp only [Act.put, List.setIfInBounds_toArray, List.set_cons_zero, List.set_cons_succ, i64_w, i32_w]
                                                    rfl
                                                  refine pure_ (i := 2) (N := some 64) (v := ?_) (a' := ?_) #[true, true, true, false, false, false, false, false, false, false, false, false, false, false, false] rfl rfl (any_of HT_.out (by kernel_rfl)) (fun _ _ _ h => h) (Or.inl ⟨by rfl, ?_⟩) ?_ ?_
                                                  rotate_left
                                                  · intro w'
                                                    go_simp
                                                    with_reducible rfl
                                                  rotate_left
                                                  · simp only [Act.put, List.setIfInBounds_toArray, List.set_cons_zero, List.set_cons_succ, i64_w, i32_w]
                                                    rfl
                                                  refine pure_ (i := 3) (N := some 65) (v := ?_) (a' := ?_) #[true, true, true, true, false, false, false, false, false, false, false, false, false, false, false] rfl rfl (any_of HT_.out (by kernel_rfl)) (fun _ _ _ h => h) (Or.inl ⟨by rfl, ?_⟩) ?_ ?_
                                                  rotate_left
                                                  · intro w'
                                                    go_simp
                                                    with_reducible rfl
                                                  rotate_left
                                                  · simp only [Act.put, List.setIfInBounds_toArray, List.set_cons_zero, List.set_cons_succ, i64_w, i32_w]
                                                    rfl
                                                  refine pure_ (i := 4) (N := some 66) (v := ?_) (a' := ?_) #[true, true, true, true, true, false, false, false, false, false, false, false, false, false, false] rfl rfl (any_of HT_.out (by kernel_rfl)) (fun _ _ _ h => h) (Or.inl ⟨by rfl, ?_⟩) ?_ ?_
                                                  rotate_left
                                                  · intro w'
                                                    go_simp
                                                    with_reducible rfl
                                                  rotate_left
                                                  · simp only [Act.put, List.setIfInBounds_toArray, List.set_cons_zero, List.set_cons_succ, i64_w, i32_w]
                                                    rfl
                                                  refine pure_ (i := 5) (N := some 67) (v := ?_) (a' := ?_) #[true, true, true, true, true, true, false, false, false, false, false, false, false, false, false] rfl rfl (any_of HT_.out (by kernel_rfl)) (fun _ _ _ h => h) (Or.inl ⟨by rfl, ?_⟩) ?_ ?_
                                                  rotate_left
                                                  · intro w'
                                                    go_simp
                                                    with_reducible rfl
                                                  rotate_left
                                                  · simp only [Act.put, List.setIfInBounds_toArray, List.set_cons_zero, List.set_cons_succ, i64_w, i32_w]
                                                    rfl
                                                  refine pure_ (i := 6) (N := some 68) (v := ?_) (a' := ?_) #[true, true, true, true, true, true, true, false, false, false, false, false, false, false, false] rfl rfl (any_of HT_.out (by kernel_rfl)) (fun _ _ _ h => h) (Or.inl ⟨by rfl, ?_⟩) ?_ ?_
                                                  rotate_left
                                                  · intro w'
                                                    go_simp
                                                    with_reducible rfl
                                                  rotate_left
                                                  · simp only [Act.put, List.setIfInBounds_toArray, List.set_cons_zero, List.set_cons_succ, i64_w, i32_w]
                                                    rfl
                                                  refine pure_ (i := 8) (N := some 70) (v := ?_) (a' := ?_) #[true, true, true, true, true, true, true, false, true, false, false, false, false, false, false] rfl rfl (any_of HT_.out (by kernel_rfl)) (fun _ _ _ h => h) (Or.inl ⟨by rfl, ?_⟩) ?_ ?_
                                                  rotate_left
                                                  · intro w'
                                                    go_simp
                                                    with_reducible rfl
                                                  rotate_left
                                                  · simp only [Act.put, List.setIfInBounds_toArray, List.set_cons_zero, List.set_cons_succ, i64_w, i32_w]
                                                    rfl
                                                  refine pure_ (i := 9) (N := some 71) (v := ?_) (a' := ?_) #[true, true, true, true, true, true, true, false, true, true, false, false, false, false, false] rfl rfl (any_of HT_.out (by kernel_rfl)) (fun _ _ _ h => h) (Or.inl ⟨by rfl, ?_⟩) ?_ ?_
                                                  rotate_left
                                                  · intro w'
                                                    go_simp
                                                    with_reducible rfl
                                                  rotate_left
                                                  · simp only [Act.put, List.setIfInBounds_toArray, List.set_cons_zero, List.set_cons_succ, i64_w, i32_w]
                                                    rfl
                                                  refine pure_ (i := 10) (N := some 72) (v := ?_) (a' := ?_) #[true, true, true, true, true, true, true, false, true, true, true, false, false, false, false] rfl rfl (any_of HT_.out (by kernel_rfl)) (fun _ _ _ h => h) (Or.inl ⟨by rfl, ?_⟩) ?_ ?_
                                                  rotate_left
                                                  · intro w'
                                                    go_simp
                                                    with_reducible rfl
                                                  rotate_left
                                                  · simp only [Act.put, List.setIfInBounds_toArray, List.set_cons_zero, List.set_cons_succ, i64_w, i32_w]
                                                    rfl
                                                  refine take_ (i := 7) (N := some 69) (v := ?_) (a' := ?_) #[true, true, true, true, true, true, true, true, true, true, true, false, false, false, false] rfl rfl (take_ofW HT_.out HW_.out (by kernel_rfl)) (fun _ _ _ h => h) (Or.inl ⟨by rfl, ?_⟩) hHeld ?_ ?_
                                                  rotate_left
                                                  · rintro w' ⟨s0, s1⟩
                                                    go_simp
                                                    with_reducible rfl
                                                  rotate_left
                                                  · simp only [Act.put, List.setIfInBounds_toArray, List.set_cons_zero, List.set_cons_succ, i64_w, i32_w]
                                                    rfl
                                                  refine pure_ (i := 11) (N := some 73) (v := ?_) (a' := ?_) #[true, true, true, true, true, true, true, true, true, true, true, true, false, false, false] rfl rfl (any_of HT_.out (by kernel_rfl)) (fun _ _ _ h => h) (Or.inl ⟨by rfl, ?_⟩) ?_ ?_
                                                  rotate_left
                                                  · intro w'
                                                    go_simp
                                                    with_reducible rfl
                                                  rotate_left
                                                  · simp only [Act.put, List.setIfInBounds_toArray, List.set_cons_zero, List.set_cons_succ, i64_w, i32_w]
                                                    rfl
                                                  refine take_ (i := 12) (N := some 74) (v := ?_) (a' := ?_) #[true, true, true, true, true, true, true, true, true, true, true, true, true, false, false] rfl rfl (take_ofW HT_.out HW_.out (by kernel_rfl)) (fun _ _ _ h => h) (Or.inl ⟨by rfl, ?_⟩) hHeld ?_ ?_
                                                  rotate_left
                                                  · rintro w' ⟨s0, s1⟩
                                                    go_simp
                                                    with_reducible rfl
                                                  rotate_left
                                                  · simp only [Act.put, List.setIfInBounds_toArray, List.set_cons_zero, List.set_cons_succ, i64_w, i32_w]
                                                    rfl
                                                  refine pure_ (i := 13) (N := some 75) (v := ?_) (a' := ?_) #[true, true, true, true, true, true, true, true, true, true, true, true, true, true, false] rfl rfl (any_of HT_.out (by kernel_rfl)) (fun _ _ _ h => h) (Or.inl ⟨by rfl, ?_⟩) ?_ ?_
                                                  rotate_left
                                                  · intro w'
                                                    go_simp
                                                    with_reducible rfl
                                                  rotate_left
                                                  · simp only [Act.put, List.setIfInBounds_toArray, List.set_cons_zero, List.set_cons_succ, i64_w, i32_w]
                                                    rfl
                                                  refine last_ (i := 14) (N := none) #[true, true, true, true, true, true, true, true, true, true, true, true, true, true, true] rfl rfl (one_of HT_.out (by kernel_rfl)) (by decide) (fun K hK => ?_)
                                                  refine skip_ (w1 := ?_) (by rfl) rfl ?_ ?_
                                                  rotate_left
                                                  · go_simp
                                                    rfl
                                                  refine hK.out _ _ ?_
                                                  clear hK K
                                                  refine done_ (done_of HT_.out (by kernel_rfl)) ?_
                                                  try go_wp2
                                                  go_roundg k3
                                                  case measure => have := HJ21.out; have := HJ27.out; have := HK3.out; omega
                                                  case rel => exact ⟨(y450), (wrap64 (x16_3 + 1)), (by first | rfl | (simp; done) | (simp [*]; done)), H', ⟨by have := HJ21.out; have := HJ27.out; have := HK3.out; omega⟩, ⟨by (with_reducible repeat (first | apply Kd.R_alloc | apply Kd.R_drewN | apply Kd.R_drew)); exact HQ47.out⟩, ⟨by repeat (first | (with_reducible first | exact HB.out | apply bwA | apply bwN | apply bw1 | refine bwS ?_ GB45.out) | exact HB.out)⟩⟩
                                                · rw [if_neg c44] at H
                                                  exact absurd H (by simp)
                                              · rw [if_neg c43] at H
                                                exact absurd H (by simp)
                                            · rw [if_neg c42] at H
                                              exact absurd H (by simp)
                                          · rw [if_neg c41] at H
                                            exact absurd H (by simp)
                                        · rw [if_neg c39] at H
                                          exact absurd H (by simp)
                                      · rw [if_neg c38] at H
                                        exact absurd H (by simp)
                                  · rw [if_neg c35] at H
                                    have c35b0 : decide (x16_3 < a4) = false := decide_eq_false c35
                                    clear c35
                                    simp only [Option.some.injEq, Prod.mk.injEq] at H
                                    obtain ⟨rfl, rfl⟩ := H
                                    go_wp2
                                    go_ret2
                                    exact ⟨_, by first | rfl | (simp [ewN, ewS] <;> rfl) | (simp [*, ewN, ewS] <;> rfl), by (with_reducible repeat (first | apply Kd.R_alloc | apply Kd.R_drewN | apply Kd.R_drew)); exact HO_15.out, by repeat (first | (with_reducible first | exact HB.out | apply bwA | apply bwN | apply bw1) | exact HB.out)⟩
                            · rw [if_neg c32] at H
                              exact absurd H (by simp)
                          · rw [if_neg c31] at H
                            exact absurd H (by simp)
        · rw [if_neg c10] at H
          exact absurd H (by simp)
      · rw [if_neg c9] at H
        exact absurd H (by simp)
  · rw [if_neg c7] at H
    have c7b0 : (t435 == 0) = false := beq_eq_false_iff_ne.mpr c7
    have c7b1 : (t435 != 0) = true := bne_iff_ne.mpr c7
    simp only [Option.some.injEq, Prod.mk.injEq] at H
    obtain ⟨rfl, rfl⟩ := H
    go_enter Try.func47, Try.ntmps47
    go_wp2_with (first | ((with_reducible refine gate_callee (f := 20) rfl ?_); refine goesL_ (some 20) rfl rfl Try.func20 (by kernel_rfl) rfl #[.int .i64 a0, .int .i64 a1, .int .i64 a2] rfl (by (try simp only [List.map_toArray, List.map_cons, List.map_nil]); first | done | rfl | (simp only [List.length_drop, List.length_take]; rfl)) ?_; (with_reducible refine (culletref16_Params.calls k a0 a1 a2 t435 _ A6.out).mono ?_); rintro e w' ⟨rfl, ⟨nd, rfl⟩⟩; refine ⟨_, rfl, ?_⟩))
    go_ret2
    exact ⟨_, by first | rfl | (simp [ewN, ewS] <;> rfl) | (simp [*, ewN, ewS] <;> rfl), by first | exact Kd.R_nil _ _ _ _ _ | exact Kd.N_nil _ _ _ _ _ | exact Kd.V_nil _ _ _ _ _ | exact Kd.Q_nil _ _ _ _ _ | exact Kd.S_nil _ _ _ _ _, by repeat (first | (with_reducible first | exact HB.out | apply bwA | apply bwN | apply bw1) | exact HB.out)⟩

end Go.Proofs.Ytcbjabnnokjnpaa.PA
