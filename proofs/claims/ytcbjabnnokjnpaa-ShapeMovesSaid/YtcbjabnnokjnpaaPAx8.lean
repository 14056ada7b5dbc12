-- Written by a program of this session (wip/drive.py, merge.py) for this seat.
import Derived.Test.YtcbjabnnokjnpaaPAx0
import Derived.Test.YtcbjabnnokjnpaaPAx3
import Derived.Test.YtcbjabnnokjnpaaPAx7
namespace Go.Proofs.Ytcbjabnnokjnpaa.PA
open Go.RowKit Go.Proofs.YtcbjabnnokjnpaaW.PrintWords Go.Proofs.YtcbjabnnokjnpaaW.PrintLast Go.Proofs.YtcbjabnnokjnpaaW.PrintMore
attribute [local go_sem] max2_int min2_int max_two min_two max_three min_three max_four min_four   -- for this text's walks alone
set_option linter.unusedVariables false
set_option linter.unusedSimpArgs false

/-! ### culletref16_Partial: function 45 -/
def culletref16_Partial.j0 : Nat → Int → Int → List Int → Int → Bool → Option (Int × List Int × Int)
  | 0, _, _, _, _, _ => none
  | k + 1, x1, x2, x12, x13, x45 => if x45 = true then (some (0, ([] : List Int), 8)) else (if (wrap64 ((wrap64 (x1 + x2)) - (x12.length : Int))) < x1 then (some (0, ([] : List Int), 9)) else (some (x13, x12, 0)))
def culletref16_Partial.f (k : Nat) (a0 : Int) (a1 : Int) (a2 : Int) (l3 : List (List Int)) : Option (Int × List Int × Int) := (culletref16_Params.f k a0 a1 a2).bind fun t369 => (if t369 = 0 then (if (l3.length : Int) = (wrap64 (a1 + a2)) then ((culletref16_empties.f k l3).bind fun t370 => (if (t370.length : Int) = (wrap64 (a1 + a2)) then (some (0, ([] : List Int), 161)) else ((culletref16_unlike.f k l3 true).bind fun t373 => (if t373 = true then (some (0, ([] : List Int), 162)) else ((culletref16_longest.f k l3).bind fun t374 => (if a0 = 2 then (culletref16_Partial.j0 k a1 a2 t370 t374 ((Int.tmod t374 2) == 1)) else (culletref16_Partial.j0 k a1 a2 t370 t374 false))))))) else (some (0, ([] : List Int), 160))) else (some (0, ([] : List Int), t369)))
theorem culletref16_Partial.mono_l : ∀ k, (∀ y0 y1 y2 y3 y4, LeO (culletref16_Partial.j0 k y0 y1 y2 y3 y4) (culletref16_Partial.j0 (k + 1) y0 y1 y2 y3 y4))
  | 0 => fun _ _ _ _ _ r h => by simp [culletref16_Partial.j0] at h
  | k + 1 => by
    have ih0 := culletref16_Partial.mono_l k
    · intro y0 y1 y2 y3 y4
      unfold culletref16_Partial.j0
      repeat' first
      | (with_reducible exact ih0 _ _ _ _ _)
      | (with_reducible exact culletref16_Params.mono _ _ _ _)
      | (with_reducible exact culletref16_empties.mono _ _)
      | (with_reducible exact culletref16_longest.mono _ _)
      | (with_reducible exact culletref16_unlike.mono _ _ _)
      | (with_reducible exact LeO.refl _)
      | (with_reducible exact LeO.none _)
      | (with_reducible refine LeO.ite ?_ ?_)
      | (with_reducible refine LeO.bind ?_ (fun _ => ?_))
      | exact ih0 _ _ _ _ _
      | exact culletref16_Params.mono _ _ _ _
      | exact culletref16_empties.mono _ _
      | exact culletref16_longest.mono _ _
      | exact culletref16_unlike.mono _ _ _
      | exact LeO.none _
      | refine LeO.ite ?_ ?_
      | refine LeO.bind ?_ (fun _ => ?_)
theorem culletref16_Partial.mono : ∀ a0 a1 a2 a3 k, LeO (culletref16_Partial.f k a0 a1 a2 a3) (culletref16_Partial.f (k + 1) a0 a1 a2 a3) := by
  intro a0 a1 a2 a3 k
  have ih0 := culletref16_Partial.mono_l k
  unfold culletref16_Partial.f
  repeat' first
      | (with_reducible exact ih0 _ _ _ _ _)
      | (with_reducible exact culletref16_Params.mono _ _ _ _)
      | (with_reducible exact culletref16_empties.mono _ _)
      | (with_reducible exact culletref16_longest.mono _ _)
      | (with_reducible exact culletref16_unlike.mono _ _ _)
      | (with_reducible exact LeO.refl _)
      | (with_reducible exact LeO.none _)
      | (with_reducible refine LeO.ite ?_ ?_)
      | (with_reducible refine LeO.bind ?_ (fun _ => ?_))
      | exact ih0 _ _ _ _ _
      | exact culletref16_Params.mono _ _ _ _
      | exact culletref16_empties.mono _ _
      | exact culletref16_longest.mono _ _
      | exact culletref16_unlike.mono _ _ _
      | exact LeO.none _
      | refine LeO.ite ?_ ?_
      | refine LeO.bind ?_ (fun _ => ?_)
set_option maxHeartbeats 8000000 in
set_option maxRecDepth 100000 in
theorem culletref16_Partial.calls (k : Nat) (a0 : Int) (a1 : Int) (a2 : Int) (A3 : Option Addr) (c3 : Nat) (l3 : List (List Int)) (r1 : Int) (r2 : List Int) (r3 : Int) (w : World) (hr3 : Kd.C (Kd.slice 5 (Kd.int .u8)) w A3 l3.length l3) (hc3 : l3.length ≤ c3) (h : culletref16_Partial.f k a0 a1 a2 l3 = some (r1, r2, r3)) :
    Calls Try.prog 45 #[.int .i64 a0, .int .i64 a1, .int .i64 a2, .slice A3 l3.length c3] w fun e w' => ∃ v1_ : Value, e = .returned (.tuple #[.int .i64 r1, v1_, .int .i64 r3]) ∧ Kd.R (Kd.int .i64) 3 w' w.heap.size (fun _ => True) v1_ r2 ∧ Below w.heap.size w w' := by
  have HR3 := Z0.mk hr3
  have HC3 := Z0.mk hc3
  clear hr3 hc3
  have HB := Z0.mk (Below.refl w.heap.size w)
  have H : ((culletref16_Params.f k a0 a1 a2).bind fun t369 => (if t369 = 0 then (if (l3.length : Int) = (wrap64 (a1 + a2)) then ((culletref16_empties.f k l3).bind fun t370 => (if (t370.length : Int) = (wrap64 (a1 + a2)) then (some (0, ([] : List Int), 161)) else ((culletref16_unlike.f k l3 true).bind fun t373 => (if t373 = true then (some (0, ([] : List Int), 162)) else ((culletref16_longest.f k l3).bind fun t374 => (if a0 = 2 then (culletref16_Partial.j0 k a1 a2 t370 t374 ((Int.tmod t374 2) == 1)) else (culletref16_Partial.j0 k a1 a2 t370 t374 false))))))) else (some (0, ([] : List Int), 160))) else (some (0, ([] : List Int), t369)))) = some (r1, r2, r3) := h
  clear h
  replace H := Option.bind_eq_some_iff.mp H
  obtain ⟨t369, A50, H⟩ := H
  try dsimp only at H
  have A5 := Z0.mk A50
  clear A50
  by_cases c6 : t369 = 0
  · rw [if_pos c6] at H
    have c6b0 : (t369 == 0) = true := beq_iff_eq.mpr c6
    have c6b1 : (t369 != 0) = false := bne_eq_false_iff_eq.mpr c6
    clear c6
    by_cases c7 : (l3.length : Int) = (wrap64 (a1 + a2))
    · rw [if_pos c7] at H
      have c7b0 : ((l3.length : Int) == (wrap64 (a1 + a2))) = true := beq_iff_eq.mpr c7
      have c7b1 : ((l3.length : Int) != (wrap64 (a1 + a2))) = false := bne_eq_false_iff_eq.mpr c7
      clear c7
      replace H := Option.bind_eq_some_iff.mp H
      obtain ⟨t370, A80, H⟩ := H
      try dsimp only at H
      have A8 := Z0.mk A80
      clear A80
      by_cases c9 : (t370.length : Int) = (wrap64 (a1 + a2))
      · rw [if_pos c9] at H
        have c9b0 : ((t370.length : Int) == (wrap64 (a1 + a2))) = true := beq_iff_eq.mpr c9
        have c9b1 : ((t370.length : Int) != (wrap64 (a1 + a2))) = false := bne_eq_false_iff_eq.mpr c9
        clear c9
        simp only [Option.some.injEq, Prod.mk.injEq] at H
        obtain ⟨rfl, rfl, rfl⟩ := H
        go_enter Try.func45, Try.ntmps45
        go_wp2_with (first | ((with_reducible refine gate_callee (f := 20) rfl ?_); refine goesL_ (some 17) rfl rfl Try.func20 (by kernel_rfl) rfl #[.int .i64 a0, .int .i64 a1, .int .i64 a2] rfl (by (try simp only [List.map_toArray, List.map_cons, List.map_nil]); first | done | rfl | (simp only [List.length_drop, List.length_take]; rfl)) ?_; (with_reducible refine (culletref16_Params.calls k a0 a1 a2 t369 _ A5.out).mono ?_); rintro e w' ⟨rfl, ⟨nd, rfl⟩⟩; refine ⟨_, rfl, ?_⟩) | ((with_reducible refine gate_callee (f := 48) rfl ?_); refine goesL_ (some 28) rfl rfl Try.func48 (by kernel_rfl) rfl #[.slice A3 l3.length c3] rfl (by (try simp only [List.map_toArray, List.map_cons, List.map_nil]); first | done | rfl | (simp only [List.length_drop, List.length_take]; rfl)) ?_; (with_reducible refine (culletref16_empties.calls k _ _ l3 t370 _ ?side1 ?side2 A8.out).mono ?_); (case side1 => repeat (first | exact HR3.out | (with_reducible refine Kd.C_alloc ?_ _) | (with_reducible refine Kd.C_drewN ?_ _) | (with_reducible refine Kd.C_drew ?_))); (case side2 => exact HC3.out); rintro e w10 ⟨v371, rfl, ho0, hb⟩; refine ⟨_, rfl, ?_⟩; have n0_ := Z0.mk (Kd.R_lower ho0 (bwZ (by repeat (first | (with_reducible first | exact HB.out | apply bwA | apply bwN | apply bw1) | exact HB.out)))); have n1_ := Z0.mk (bwT (by repeat (first | (with_reducible first | exact HB.out | apply bwA | apply bwN | apply bw1) | exact HB.out)) hb); clear HB; have HO372 := n0_; have HB := n1_; clear n0_ n1_; (try clear hb); (try clear hb2); (try clear hk); (try clear hi); (try clear ho0); obtain ⟨Ao11, co11, eo11⟩ := Kd.R_slice HO372.out; subst eo11))
        go_ret3
        exact ⟨_, by first | rfl | (simp [ewN, ewS] <;> rfl) | (simp [*, ewN, ewS] <;> rfl), by first | exact Kd.R_nil _ _ _ _ _ | exact Kd.N_nil _ _ _ _ _ | exact Kd.V_nil _ _ _ _ _ | exact Kd.Q_nil _ _ _ _ _ | exact Kd.S_nil _ _ _ _ _, by repeat (first | (with_reducible first | exact HB.out | apply bwA | apply bwN | apply bw1) | exact HB.out)⟩
      · rw [if_neg c9] at H
        have c9b0 : ((t370.length : Int) == (wrap64 (a1 + a2))) = false := beq_eq_false_iff_ne.mpr c9
        have c9b1 : ((t370.length : Int) != (wrap64 (a1 + a2))) = true := bne_iff_ne.mpr c9
        replace H := Option.bind_eq_some_iff.mp H
        obtain ⟨t373, A120, H⟩ := H
        try dsimp only at H
        have A12 := Z0.mk A120
        clear A120
        by_cases c13 : t373 = true
        · subst c13
          have H1 : (some (0, ([] : List Int), 162)) = some (r1, r2, r3) := by rw [if_pos rfl] at H; exact H
          clear H
          have H := H1
          clear H1
          simp only [Option.some.injEq, Prod.mk.injEq] at H
          obtain ⟨rfl, rfl, rfl⟩ := H
          go_enter Try.func45, Try.ntmps45
          go_wp2_with (first | ((with_reducible refine gate_callee (f := 20) rfl ?_); refine goesL_ (some 17) rfl rfl Try.func20 (by kernel_rfl) rfl #[.int .i64 a0, .int .i64 a1, .int .i64 a2] rfl (by (try simp only [List.map_toArray, List.map_cons, List.map_nil]); first | done | rfl | (simp only [List.length_drop, List.length_take]; rfl)) ?_; (with_reducible refine (culletref16_Params.calls k a0 a1 a2 t369 _ A5.out).mono ?_); rintro e w' ⟨rfl, ⟨nd, rfl⟩⟩; refine ⟨_, rfl, ?_⟩) | ((with_reducible refine gate_callee (f := 48) rfl ?_); refine goesL_ (some 28) rfl rfl Try.func48 (by kernel_rfl) rfl #[.slice A3 l3.length c3] rfl (by (try simp only [List.map_toArray, List.map_cons, List.map_nil]); first | done | rfl | (simp only [List.length_drop, List.length_take]; rfl)) ?_; (with_reducible refine (culletref16_empties.calls k _ _ l3 t370 _ ?side1 ?side2 A8.out).mono ?_); (case side1 => repeat (first | exact HR3.out | (with_reducible refine Kd.C_alloc ?_ _) | (with_reducible refine Kd.C_drewN ?_ _) | (with_reducible refine Kd.C_drew ?_))); (case side2 => exact HC3.out); rintro e w14 ⟨v371, rfl, ho0, hb⟩; refine ⟨_, rfl, ?_⟩; have n0_ := Z0.mk (Kd.R_lower ho0 (bwZ (by repeat (first | (with_reducible first | exact HB.out | apply bwA | apply bwN | apply bw1) | exact HB.out)))); have n1_ := Z0.mk (bwT (by repeat (first | (with_reducible first | exact HB.out | apply bwA | apply bwN | apply bw1) | exact HB.out)) hb); clear HB; have HO372 := n0_; have HB := n1_; clear n0_ n1_; (try clear hb); (try clear hb2); (try clear hk); (try clear hi); (try clear ho0); obtain ⟨Ao15, co15, eo15⟩ := Kd.R_slice HO372.out; subst eo15) | ((with_reducible refine gate_callee (f := 49) rfl ?_); refine goesL_ (some 36) rfl rfl Try.func49 (by kernel_rfl) rfl #[.slice A3 l3.length c3, .bool true] rfl (by (try simp only [List.map_toArray, List.map_cons, List.map_nil]); first | done | rfl | (simp only [List.length_drop, List.length_take]; rfl)) ?_; (with_reducible refine (culletref16_unlike.calls k _ _ l3 true true _ ?side1 ?side2 A12.out).mono ?_); (case side1 => repeat (first | exact (Kd.C_below HR3.out HB.out) | (with_reducible refine Kd.C_alloc ?_ _) | (with_reducible refine Kd.C_drewN ?_ _) | (with_reducible refine Kd.C_drew ?_))); (case side2 => exact HC3.out); rintro e w' ⟨rfl, ⟨nd, rfl⟩⟩; refine ⟨_, rfl, ?_⟩))
          go_ret3
          exact ⟨_, by first | rfl | (simp [ewN, ewS] <;> rfl) | (simp [*, ewN, ewS] <;> rfl), by first | exact Kd.R_nil _ _ _ _ _ | exact Kd.N_nil _ _ _ _ _ | exact Kd.V_nil _ _ _ _ _ | exact Kd.Q_nil _ _ _ _ _ | exact Kd.S_nil _ _ _ _ _, by repeat (first | (with_reducible first | exact HB.out | apply bwA | apply bwN | apply bw1) | exact HB.out)⟩
        · replace c13 := Bool.eq_false_iff.mpr c13
          subst c13
          have H1 : ((culletref16_longest.f k l3).bind fun t374 => (if a0 = 2 then (culletref16_Partial.j0 k a1 a2 t370 t374 ((Int.tmod t374 2) == 1)) else (culletref16_Partial.j0 k a1 a2 t370 t374 false))) = some (r1, r2, r3) := by rw [if_neg (show ¬ (false = true) by decide)] at H; exact H
          clear H
          have H := H1
          clear H1
          replace H := Option.bind_eq_some_iff.mp H
          obtain ⟨t374, A160, H⟩ := H
          try dsimp only at H
          have A16 := Z0.mk A160
          clear A160
          have HC17 := Z0.mk H
          clear H
          go_enter Try.func45, Try.ntmps45
          go_upto_region 12 with (first | ((with_reducible refine gate_callee (f := 20) rfl ?_); refine goesL_ (some 17) rfl rfl Try.func20 (by kernel_rfl) rfl #[.int .i64 a0, .int .i64 a1, .int .i64 a2] rfl (by (try simp only [List.map_toArray, List.map_cons, List.map_nil]); first | done | rfl | (simp only [List.length_drop, List.length_take]; rfl)) ?_; (with_reducible refine (culletref16_Params.calls k a0 a1 a2 t369 _ A5.out).mono ?_); rintro e w' ⟨rfl, ⟨nd, rfl⟩⟩; refine ⟨_, rfl, ?_⟩) | ((with_reducible refine gate_callee (f := 48) rfl ?_); refine goesL_ (some 28) rfl rfl Try.func48 (by kernel_rfl) rfl #[.slice A3 l3.length c3] rfl (by (try simp only [List.map_toArray, List.map_cons, List.map_nil]); first | done | rfl | (simp only [List.length_drop, List.length_take]; rfl)) ?_; (with_reducible refine (culletref16_empties.calls k _ _ l3 t370 _ ?side1 ?side2 A8.out).mono ?_); (case side1 => repeat (first | exact HR3.out | (with_reducible refine Kd.C_alloc ?_ _) | (with_reducible refine Kd.C_drewN ?_ _) | (with_reducible refine Kd.C_drew ?_))); (case side2 => exact HC3.out); rintro e w18 ⟨v371, rfl, ho0, hb⟩; refine ⟨_, rfl, ?_⟩; have n0_ := Z0.mk (Kd.R_lower ho0 (bwZ (by repeat (first | (with_reducible first | exact HB.out | apply bwA | apply bwN | apply bw1) | exact HB.out)))); have n1_ := Z0.mk (bwT (by repeat (first | (with_reducible first | exact HB.out | apply bwA | apply bwN | apply bw1) | exact HB.out)) hb); clear HB; have HO372 := n0_; have HB := n1_; clear n0_ n1_; (try clear hb); (try clear hb2); (try clear hk); (try clear hi); (try clear ho0); obtain ⟨Ao19, co19, eo19⟩ := Kd.R_slice HO372.out; subst eo19) | ((with_reducible refine gate_callee (f := 49) rfl ?_); refine goesL_ (some 36) rfl rfl Try.func49 (by kernel_rfl) rfl #[.slice A3 l3.length c3, .bool true] rfl (by (try simp only [List.map_toArray, List.map_cons, List.map_nil]); first | done | rfl | (simp only [List.length_drop, List.length_take]; rfl)) ?_; (with_reducible refine (culletref16_unlike.calls k _ _ l3 true false _ ?side1 ?side2 A12.out).mono ?_); (case side1 => repeat (first | exact (Kd.C_below HR3.out HB.out) | (with_reducible refine Kd.C_alloc ?_ _) | (with_reducible refine Kd.C_drewN ?_ _) | (with_reducible refine Kd.C_drew ?_))); (case side2 => exact HC3.out); rintro e w' ⟨rfl, ⟨nd, rfl⟩⟩; refine ⟨_, rfl, ?_⟩) | ((with_reducible refine gate_callee (f := 50) rfl ?_); refine goesL_ (some 38) rfl rfl Try.func50 (by kernel_rfl) rfl #[.slice A3 l3.length c3] rfl (by (try simp only [List.map_toArray, List.map_cons, List.map_nil]); first | done | rfl | (simp only [List.length_drop, List.length_take]; rfl)) ?_; (with_reducible refine (culletref16_longest.calls k _ _ l3 t374 _ ?side1 ?side2 A16.out).mono ?_); (case side1 => repeat (first | exact (Kd.C_below HR3.out (by repeat (first | (with_reducible first | exact HB.out | apply bwA | apply bwN | apply bw1) | exact HB.out))) | (with_reducible refine Kd.C_alloc ?_ _) | (with_reducible refine Kd.C_drewN ?_ _) | (with_reducible refine Kd.C_drew ?_))); (case side2 => exact HC3.out); rintro e w' ⟨rfl, ⟨nd, rfl⟩⟩; refine ⟨_, rfl, ?_⟩))
          (try simp only [Act.put, List.setIfInBounds_toArray, List.set_cons_zero, List.set_cons_succ])
          go_cut [45] (fun v45 wc => ∃ (kq : Nat) (x45_16 : Bool), v45 = .bool x45_16 ∧ Z0 (culletref16_Partial.j0 kq a1 a2 t370 t374 x45_16 = some (r1, r2, r3)) ∧ Z0 (kq ≤ k) ∧ Z0 (Kd.R (Kd.int .i64) 3 wc w.heap.size (fun _ => True) (.slice Ao19 t370.length co19) t370) ∧ Z0 (Below w.heap.size w wc))
          case first =>
            have H := HC17.out
            clear HC17
            by_cases c20 : a0 = 2
            · rw [if_pos c20] at H
              have c20b0 : (a0 == 2) = true := beq_iff_eq.mpr c20
              have c20b1 : (a0 != 2) = false := bne_eq_false_iff_eq.mpr c20
              clear c20
              (first | rw [c20b0] | (simp only [i64_w, i32_w]; rw [c20b0]) | skip)
              have H' := Z0.mk H
              clear H
              go_wp2
              go_meet
              case rel => exact ⟨_, (((Int.tmod t374 2) == 1)), (by first | rfl | (simp; done) | (simp [*]; done)), H', ⟨by first | omega | exact Nat.le_refl _⟩, ⟨by (with_reducible repeat (first | apply Kd.R_alloc | apply Kd.R_drewN | apply Kd.R_drew)); exact HO372.out⟩, ⟨by repeat (first | (with_reducible first | exact HB.out | apply bwA | apply bwN | apply bw1) | exact HB.out)⟩⟩
            · rw [if_neg c20] at H
              have c20b0 : (a0 == 2) = false := beq_eq_false_iff_ne.mpr c20
              have c20b1 : (a0 != 2) = true := bne_iff_ne.mpr c20
              (first | rw [c20b0] | (simp only [i64_w, i32_w]; rw [c20b0]) | skip)
              have H' := Z0.mk H
              clear H
              go_wp2
              go_meet
              case rel => exact ⟨_, (false), (by first | rfl | (simp; done) | (simp [*]; done)), H', ⟨by first | omega | exact Nat.le_refl _⟩, ⟨by (with_reducible repeat (first | apply Kd.R_alloc | apply Kd.R_drewN | apply Kd.R_drew)); exact HO372.out⟩, ⟨by repeat (first | (with_reducible first | exact HB.out | apply bwA | apply bwN | apply bw1) | exact HB.out)⟩⟩
          case rest =>
            clear HC17
            try clear c1
            try clear c2
            try clear p2
            try clear c3
            try clear c4
            try clear c5
            try clear c6
            try clear c6b0
            try clear c6b1
            try clear p6
            try clear c7
            try clear c7b0
            try clear c7b1
            try clear c9
            try clear c9b0
            try clear c9b1
            try clear c13
            try clear c20
            try clear c20b0
            try clear c20b1
            obtain ⟨kq, x45_16, rfl, HA, HJ16, HO_12, HB⟩ := hcut
            cases kq with
            | zero => exact absurd HA.out (by simp [culletref16_Partial.j0])
            | succ kj16 =>
              have H := HA.out
              clear HA
              simp only [culletref16_Partial.j0] at H
              by_cases c21 : x45_16 = true
              · subst c21
                have H1 : (some (0, ([] : List Int), 8)) = some (r1, r2, r3) := by rw [if_pos rfl] at H; exact H
                clear H
                have H := H1
                clear H1
                simp only [Option.some.injEq, Prod.mk.injEq] at H
                obtain ⟨rfl, rfl, rfl⟩ := H
                go_wp2
                go_ret3
                exact ⟨_, by first | rfl | (simp [ewN, ewS] <;> rfl) | (simp [*, ewN, ewS] <;> rfl), by first | exact Kd.R_nil _ _ _ _ _ | exact Kd.N_nil _ _ _ _ _ | exact Kd.V_nil _ _ _ _ _ | exact Kd.Q_nil _ _ _ _ _ | exact Kd.S_nil _ _ _ _ _, by repeat (first | (with_reducible first | exact HB.out | apply bwA | apply bwN | apply bw1) | exact HB.out)⟩
              · replace c21 := Bool.eq_false_iff.mpr c21
                subst c21
                have H1 : (if (wrap64 ((wrap64 (a1 + a2)) - (t370.length : Int))) < a1 then (some (0, ([] : List Int), 9)) else (some (t374, t370, 0))) = some (r1, r2, r3) := by rw [if_neg (show ¬ (false = true) by decide)] at H; exact H
                clear H
                have H := H1
                clear H1
                by_cases c22 : (wrap64 ((wrap64 (a1 + a2)) - (t370.length : Int))) < a1
                · rw [if_pos c22] at H
                  have c22b0 : decide ((wrap64 ((wrap64 (a1 + a2)) - (t370.length : Int))) < a1) = true := decide_eq_true c22
                  clear c22
                  simp only [Option.some.injEq, Prod.mk.injEq] at H
                  obtain ⟨rfl, rfl, rfl⟩ := H
                  go_wp2
                  go_ret3
                  exact ⟨_, by first | rfl | (simp [ewN, ewS] <;> rfl) | (simp [*, ewN, ewS] <;> rfl), by first | exact Kd.R_nil _ _ _ _ _ | exact Kd.N_nil _ _ _ _ _ | exact Kd.V_nil _ _ _ _ _ | exact Kd.Q_nil _ _ _ _ _ | exact Kd.S_nil _ _ _ _ _, by repeat (first | (with_reducible first | exact HB.out | apply bwA | apply bwN | apply bw1) | exact HB.out)⟩
                · rw [if_neg c22] at H
                  have c22b0 : decide ((wrap64 ((wrap64 (a1 + a2)) - (t370.length : Int))) < a1) = false := decide_eq_false c22
                  clear c22
                  simp only [Option.some.injEq, Prod.mk.injEq] at H
                  obtain ⟨rfl, rfl, rfl⟩ := H
                  go_wp2
                  go_ret3
                  exact ⟨_, by first | rfl | (simp [ewN, ewS] <;> rfl) | (simp [*, ewN, ewS] <;> rfl), by (with_reducible repeat (first | apply Kd.R_alloc | apply Kd.R_drewN | apply Kd.R_drew)); exact HO_12.out, by repeat (first | (with_reducible first | exact HB.out | apply bwA | apply bwN | apply bw1) | exact HB.out)⟩
    · rw [if_neg c7] at H
      have c7b0 : ((l3.length : Int) == (wrap64 (a1 + a2))) = false := beq_eq_false_iff_ne.mpr c7
      have c7b1 : ((l3.length : Int) != (wrap64 (a1 + a2))) = true := bne_iff_ne.mpr c7
      simp only [Option.some.injEq, Prod.mk.injEq] at H
      obtain ⟨rfl, rfl, rfl⟩ := H
      go_enter Try.func45, Try.ntmps45
      go_wp2_with (first | ((with_reducible refine gate_callee (f := 20) rfl ?_); refine goesL_ (some 17) rfl rfl Try.func20 (by kernel_rfl) rfl #[.int .i64 a0, .int .i64 a1, .int .i64 a2] rfl (by (try simp only [List.map_toArray, List.map_cons, List.map_nil]); first | done | rfl | (simp only [List.length_drop, List.length_take]; rfl)) ?_; (with_reducible refine (culletref16_Params.calls k a0 a1 a2 t369 _ A5.out).mono ?_); rintro e w' ⟨rfl, ⟨nd, rfl⟩⟩; refine ⟨_, rfl, ?_⟩))
      go_ret3
      exact ⟨_, by first | rfl | (simp [ewN, ewS] <;> rfl) | (simp [*, ewN, ewS] <;> rfl), by first | exact Kd.R_nil _ _ _ _ _ | exact Kd.N_nil _ _ _ _ _ | exact Kd.V_nil _ _ _ _ _ | exact Kd.Q_nil _ _ _ _ _ | exact Kd.S_nil _ _ _ _ _, by repeat (first | (with_reducible first | exact HB.out | apply bwA | apply bwN | apply bw1) | exact HB.out)⟩
  · rw [if_neg c6] at H
    have c6b0 : (t369 == 0) = false := beq_eq_false_iff_ne.mpr c6
    have c6b1 : (t369 != 0) = true := bne_iff_ne.mpr c6
    simp only [Option.some.injEq, Prod.mk.injEq] at H
    obtain ⟨rfl, rfl, rfl⟩ := H
    go_enter Try.func45, Try.ntmps45
    go_wp2_with (first | ((with_reducible refine gate_callee (f := 20) rfl ?_); refine goesL_ (some 17) rfl rfl Try.func20 (by kernel_rfl) rfl #[.int .i64 a0, .int .i64 a1, .int .i64 a2] rfl (by (try simp only [List.map_toArray, List.map_cons, List.map_nil]); first | done | rfl | (simp only [List.length_drop, List.length_take]; rfl)) ?_; (with_reducible refine (culletref16_Params.calls k a0 a1 a2 t369 _ A5.out).mono ?_); rintro e w' ⟨rfl, ⟨nd, rfl⟩⟩; refine ⟨_, rfl, ?_⟩))
    go_ret3
    exact ⟨_, by first | rfl | (simp [ewN, ewS] <;> rfl) | (simp [*, ewN, ewS] <;> rfl), by first | exact Kd.R_nil _ _ _ _ _ | exact Kd.N_nil _ _ _ _ _ | exact Kd.V_nil _ _ _ _ _ | exact Kd.Q_nil _ _ _ _ _ | exact Kd.S_nil _ _ _ _ _, by repeat (first | (with_reducible first | exact HB.out | apply bwA | apply bwN | apply bw1) | exact HB.out)⟩

end Go.Proofs.Ytcbjabnnokjnpaa.PA

namespace Go.Proofs.Ytcbjabnnokjnpaa.PA
open Go.RowKit Go.Proofs.YtcbjabnnokjnpaaW.PrintWords Go.Proofs.YtcbjabnnokjnpaaW.PrintLast Go.Proofs.YtcbjabnnokjnpaaW.PrintMore
attribute [local go_sem] max2_int min2_int max_two min_two max_three min_three max_four min_four   -- for this text's walks alone
set_option linter.unusedVariables false
set_option linter.unusedSimpArgs false

/-! ### culletref16_Fresh: function 46 -/
mutual
def culletref16_Fresh.j0 : Nat → Int → Int → List (List Int) → List (List Int) → Bool → Option (Int × List Int × Int)
  | 0, _, _, _, _, _ => none
  | k + 1, x0, x1, x3, x4, x36 => if x36 = true then (some (0, ([] : List Int), 160)) else ((culletref16_empties.f k x3).bind fun t376 => (if (t376.length : Int) > 0 then (some (0, ([] : List Int), 161)) else ((some (([] : List (List Int)) : List (List Int))).bind fun y379 => (if y379.length + x3.length < 5864062014805 then ((some (y379 ++ x3 : List (List Int))).bind fun y382 => (if y382.length + x4.length < 5864062014805 then ((culletref16_unlike.f k (y382 ++ x4) true).bind fun t388 => (if t388 = true then (some (0, ([] : List Int), 162)) else ((culletref16_longest.f k x3).bind fun t389 => (if x0 = 2 then (culletref16_Fresh.j1 k x1 x4 t389 ((Int.tmod t389 2) == 1)) else (culletref16_Fresh.j1 k x1 x4 t389 false))))) else (none))) else (none)))))
def culletref16_Fresh.j1 : Nat → Int → List (List Int) → Int → Bool → Option (Int × List Int × Int)
  | 0, _, _, _, _ => none
  | k + 1, x1, x4, x15, x56 => if x56 = true then (some (0, ([] : List Int), 8)) else (culletref16_Fresh.l0 k x1 x4 x15 ([] : List Int) 0)
def culletref16_Fresh.l0 : Nat → Int → List (List Int) → Int → List Int → Int → Option (Int × List Int × Int)
  | 0, _, _, _, _, _ => none
  | k + 1, x1, x4, x15, x16, x17 => if x17 < x1 then (if 0 ≤ x17 then (if x17 < (x4.length : Int) then (if ((rd_L2 x4 x17).length : Int) > 0 then (if x16.length < 17592186044416 then (culletref16_Fresh.l0 k x1 x4 x15 (x16 ++ [x17]) (wrap64 (x17 + 1))) else (none)) else (culletref16_Fresh.l0 k x1 x4 x15 x16 (wrap64 (x17 + 1)))) else (none)) else (none)) else (some (x15, x16, 0))
end
def culletref16_Fresh.f (k : Nat) (a0 : Int) (a1 : Int) (a2 : Int) (l3 : List (List Int)) (l4 : List (List Int)) : Option (Int × List Int × Int) := (culletref16_Params.f k a0 a1 a2).bind fun t375 => (if t375 = 0 then (if (l3.length : Int) = (wrap64 (a1 + a2)) then (culletref16_Fresh.j0 k a0 a1 l3 l4 ((l4.length : Int) != a1)) else (culletref16_Fresh.j0 k a0 a1 l3 l4 true)) else (some (0, ([] : List Int), t375)))
theorem culletref16_Fresh.mono_l : ∀ k, (∀ y0 y1 y2 y3 y4, LeO (culletref16_Fresh.j0 k y0 y1 y2 y3 y4) (culletref16_Fresh.j0 (k + 1) y0 y1 y2 y3 y4)) ∧ (∀ y0 y1 y2 y3, LeO (culletref16_Fresh.j1 k y0 y1 y2 y3) (culletref16_Fresh.j1 (k + 1) y0 y1 y2 y3)) ∧ (∀ y0 y1 y2 y3 y4, LeO (culletref16_Fresh.l0 k y0 y1 y2 y3 y4) (culletref16_Fresh.l0 (k + 1) y0 y1 y2 y3 y4))
  | 0 => ⟨fun _ _ _ _ _ r h => by simp [culletref16_Fresh.j0] at h, fun _ _ _ _ r h => by simp [culletref16_Fresh.j1] at h, fun _ _ _ _ _ r h => by simp [culletref16_Fresh.l0] at h⟩
  | k + 1 => by
    obtain ⟨ih0, ih1, ih2⟩ := culletref16_Fresh.mono_l k
    refine ⟨?_, ?_, ?_⟩
    · intro y0 y1 y2 y3 y4
      unfold culletref16_Fresh.j0
      repeat' first
      | (with_reducible exact ih0 _ _ _ _ _)
      | (with_reducible exact ih1 _ _ _ _)
      | (with_reducible exact ih2 _ _ _ _ _)
      | (with_reducible exact culletref16_Params.mono _ _ _ _)
      | (with_reducible exact culletref16_empties.mono _ _)
      | (with_reducible exact culletref16_longest.mono _ _)
      | (with_reducible exact culletref16_unlike.mono _ _ _)
      | (with_reducible exact LeO.refl _)
      | (with_reducible exact LeO.none _)
      | (with_reducible refine LeO.ite ?_ ?_)
      | (with_reducible refine LeO.bind ?_ (fun _ => ?_))
      | exact ih0 _ _ _ _ _
      | exact ih1 _ _ _ _
      | exact ih2 _ _ _ _ _
      | exact culletref16_Params.mono _ _ _ _
      | exact culletref16_empties.mono _ _
      | exact culletref16_longest.mono _ _
      | exact culletref16_unlike.mono _ _ _
      | exact LeO.none _
      | refine LeO.ite ?_ ?_
      | refine LeO.bind ?_ (fun _ => ?_)
    · intro y0 y1 y2 y3
      unfold culletref16_Fresh.j1
      repeat' first
      | (with_reducible exact ih0 _ _ _ _ _)
      | (with_reducible exact ih1 _ _ _ _)
      | (with_reducible exact ih2 _ _ _ _ _)
      | (with_reducible exact culletref16_Params.mono _ _ _ _)
      | (with_reducible exact culletref16_empties.mono _ _)
      | (with_reducible exact culletref16_longest.mono _ _)
      | (with_reducible exact culletref16_unlike.mono _ _ _)
      | (with_reducible exact LeO.refl _)
      | (with_reducible exact LeO.none _)
      | (with_reducible refine LeO.ite ?_ ?_)
      | (with_reducible refine LeO.bind ?_ (fun _ => ?_))
      | exact ih0 _ _ _ _ _
      | exact ih1 _ _ _ _
      | exact ih2 _ _ _ _ _
      | exact culletref16_Params.mono _ _ _ _
      | exact culletref16_empties.mono _ _
      | exact culletref16_longest.mono _ _
      | exact culletref16_unlike.mono _ _ _
      | exact LeO.none _
      | refine LeO.ite ?_ ?_
      | refine LeO.bind ?_ (fun _ => ?_)
    · intro y0 y1 y2 y3 y4
      unfold culletref16_Fresh.l0
      repeat' first
      | (with_reducible exact ih0 _ _ _ _ _)
      | (with_reducible exact ih1 _ _ _ _)
      | (with_reducible exact ih2 _ _ _ _ _)
      | (with_reducible exact culletref16_Params.mono _ _ _ _)
      | (with_reducible exact culletref16_empties.mono _ _)
      | (with_reducible exact culletref16_longest.mono _ _)
      | (with_reducible exact culletref16_unlike.mono _ _ _)
      | (with_reducible exact LeO.refl _)
      | (with_reducible exact LeO.none _)
      | (with_reducible refine LeO.ite ?_ ?_)
      | (with_reducible refine LeO.bind ?_ (fun _ => ?_))
      | exact ih0 _ _ _ _ _
      | exact ih1 _ _ _ _
      | exact ih2 _ _ _ _ _
      | exact culletref16_Params.mono _ _ _ _
      | exact culletref16_empties.mono _ _
      | exact culletref16_longest.mono _ _
      | exact culletref16_unlike.mono _ _ _
      | exact LeO.none _
      | refine LeO.ite ?_ ?_
      | refine LeO.bind ?_ (fun _ => ?_)
theorem culletref16_Fresh.mono : ∀ a0 a1 a2 a3 a4 k, LeO (culletref16_Fresh.f k a0 a1 a2 a3 a4) (culletref16_Fresh.f (k + 1) a0 a1 a2 a3 a4) := by
  intro a0 a1 a2 a3 a4 k
  obtain ⟨ih0, ih1, ih2⟩ := culletref16_Fresh.mono_l k
  unfold culletref16_Fresh.f
  repeat' first
      | (with_reducible exact ih0 _ _ _ _ _)
      | (with_reducible exact ih1 _ _ _ _)
      | (with_reducible exact ih2 _ _ _ _ _)
      | (with_reducible exact culletref16_Params.mono _ _ _ _)
      | (with_reducible exact culletref16_empties.mono _ _)
      | (with_reducible exact culletref16_longest.mono _ _)
      | (with_reducible exact culletref16_unlike.mono _ _ _)
      | (with_reducible exact LeO.refl _)
      | (with_reducible exact LeO.none _)
      | (with_reducible refine LeO.ite ?_ ?_)
      | (with_reducible refine LeO.bind ?_ (fun _ => ?_))
      | exact ih0 _ _ _ _ _
      | exact ih1 _ _ _ _
      | exact ih2 _ _ _ _ _
      | exact culletref16_Params.mono _ _ _ _
      | exact culletref16_empties.mono _ _
      | exact culletref16_longest.mono _ _
      | exact culletref16_unlike.mono _ _ _
      | exact LeO.none _
      | refine LeO.ite ?_ ?_
      | refine LeO.bind ?_ (fun _ => ?_)
set_option maxHeartbeats 8000000 in
set_option maxRecDepth 100000 in
theorem culletref16_Fresh.calls (k : Nat) (a0 : Int) (a1 : Int) (a2 : Int) (P3_ : Nat → Prop) (A3 : Option Addr) (c3 : Nat) (l3 : List (List Int)) (P4_ : Nat → Prop) (A4 : Option Addr) (c4 : Nat) (l4 : List (List Int)) (r1 : Int) (r2 : List Int) (r3 : Int) (w : World) (hs3 : Kd.V (Kd.slice 5 (Kd.int .u8)) 27 w w.heap.size (fun k_ => P3_ k_) (.slice A3 l3.length c3) l3) (hs4 : Kd.V (Kd.slice 5 (Kd.int .u8)) 27 w w.heap.size (fun k_ => P4_ k_) (.slice A4 l4.length c4) l4) (h : culletref16_Fresh.f k a0 a1 a2 l3 l4 = some (r1, r2, r3)) :
    Calls Try.prog 46 #[.int .i64 a0, .int .i64 a1, .int .i64 a2, .slice A3 l3.length c3, .slice A4 l4.length c4] w fun e w' => ∃ v1_ : Value, e = .returned (.tuple #[.int .i64 r1, v1_, .int .i64 r3]) ∧ Kd.R (Kd.int .i64) 3 w' w.heap.size (fun k_ => (w.heap.size ≤ k_)) v1_ r2 ∧ Below w.heap.size w w' := by
  have HO3 := Z0.mk (show Kd.V (Kd.slice 5 (Kd.int .u8)) 27 w w.heap.size (fun k_ => ((P3_ k_ ∨ P4_ k_) ∨ w.heap.size ≤ k_)) (.slice A3 l3.length c3) l3 from Kd.V_mono hs3 (fun k_ hk => .inl (.inl hk)))
  have HO4 := Z0.mk (show Kd.V (Kd.slice 5 (Kd.int .u8)) 27 w w.heap.size (fun k_ => ((P3_ k_ ∨ P4_ k_) ∨ w.heap.size ≤ k_)) (.slice A4 l4.length c4) l4 from Kd.V_mono hs4 (fun k_ hk => .inl (.inr hk)))
  have HB := Z0.mk (Below.refl w.heap.size w)
  have H : ((culletref16_Params.f k a0 a1 a2).bind fun t375 => (if t375 = 0 then (if (l3.length : Int) = (wrap64 (a1 + a2)) then (culletref16_Fresh.j0 k a0 a1 l3 l4 ((l4.length : Int) != a1)) else (culletref16_Fresh.j0 k a0 a1 l3 l4 true)) else (some (0, ([] : List Int), t375)))) = some (r1, r2, r3) := h
  clear h
  replace H := Option.bind_eq_some_iff.mp H
  obtain ⟨t375, A60, H⟩ := H
  try dsimp only at H
  have A6 := Z0.mk A60
  clear A60
  by_cases c7 : t375 = 0
  · rw [if_pos c7] at H
    have c7b0 : (t375 == 0) = true := beq_iff_eq.mpr c7
    have c7b1 : (t375 != 0) = false := bne_eq_false_iff_eq.mpr c7
    clear c7
    have HC8 := Z0.mk H
    clear H
    go_enter Try.func46, Try.ntmps46
    go_upto_region 4 with (first | ((with_reducible refine gate_callee (f := 20) rfl ?_); refine goesL_ (some 21) rfl rfl Try.func20 (by kernel_rfl) rfl #[.int .i64 a0, .int .i64 a1, .int .i64 a2] rfl (by (try simp only [List.map_toArray, List.map_cons, List.map_nil]); first | done | rfl | (simp only [List.length_drop, List.length_take]; rfl)) ?_; (with_reducible refine (culletref16_Params.calls k a0 a1 a2 t375 _ A6.out).mono ?_); rintro e w' ⟨rfl, ⟨nd, rfl⟩⟩; refine ⟨_, rfl, ?_⟩))
    (try simp only [Act.put, List.setIfInBounds_toArray, List.set_cons_zero, List.set_cons_succ])
    go_cut [36] (fun v36 wc => ∃ (kq : Nat) (x36_7 : Bool), v36 = .bool x36_7 ∧ Z0 (culletref16_Fresh.j0 kq a0 a1 l3 l4 x36_7 = some (r1, r2, r3)) ∧ Z0 (kq ≤ k) ∧ Z0 (Kd.V (Kd.slice 5 (Kd.int .u8)) 27 wc w.heap.size (fun k_ => ((P3_ k_ ∨ P4_ k_) ∨ w.heap.size ≤ k_)) (.slice A3 l3.length c3) l3) ∧ Z0 (Kd.V (Kd.slice 5 (Kd.int .u8)) 27 wc w.heap.size (fun k_ => ((P3_ k_ ∨ P4_ k_) ∨ w.heap.size ≤ k_)) (.slice A4 l4.length c4) l4) ∧ Z0 (Below w.heap.size w wc))
    case first =>
      have H := HC8.out
      clear HC8
      by_cases c9 : (l3.length : Int) = (wrap64 (a1 + a2))
      · rw [if_pos c9] at H
        have c9b0 : ((l3.length : Int) == (wrap64 (a1 + a2))) = true := beq_iff_eq.mpr c9
        have c9b1 : ((l3.length : Int) != (wrap64 (a1 + a2))) = false := bne_eq_false_iff_eq.mpr c9
        clear c9
        (first | rw [c9b0] | (simp only [i64_w, i32_w]; rw [c9b0]) | skip)
        have H' := Z0.mk H
        clear H
        go_wp2
        go_meet
        case rel => exact ⟨_, (((l4.length : Int) != a1)), (by first | rfl | (simp; done) | (simp [*]; done)), H', ⟨by first | omega | exact Nat.le_refl _⟩, ⟨by (with_reducible repeat (first | apply Kd.V_alloc | apply Kd.V_drewN | apply Kd.V_drew)); exact HO3.out⟩, ⟨by (with_reducible repeat (first | apply Kd.V_alloc | apply Kd.V_drewN | apply Kd.V_drew)); exact HO4.out⟩, ⟨by repeat (first | (with_reducible first | exact HB.out | apply bwA | apply bwN | apply bw1) | exact HB.out)⟩⟩
      · rw [if_neg c9] at H
        have c9b0 : ((l3.length : Int) == (wrap64 (a1 + a2))) = false := beq_eq_false_iff_ne.mpr c9
        have c9b1 : ((l3.length : Int) != (wrap64 (a1 + a2))) = true := bne_iff_ne.mpr c9
        (first | rw [c9b0] | (simp only [i64_w, i32_w]; rw [c9b0]) | skip)
        have H' := Z0.mk H
        clear H
        go_wp2
        go_meet
        case rel => exact ⟨_, (true), (by first | rfl | (simp; done) | (simp [*]; done)), H', ⟨by first | omega | exact Nat.le_refl _⟩, ⟨by (with_reducible repeat (first | apply Kd.V_alloc | apply Kd.V_drewN | apply Kd.V_drew)); exact HO3.out⟩, ⟨by (with_reducible repeat (first | apply Kd.V_alloc | apply Kd.V_drewN | apply Kd.V_drew)); exact HO4.out⟩, ⟨by repeat (first | (with_reducible first | exact HB.out | apply bwA | apply bwN | apply bw1) | exact HB.out)⟩⟩
    case rest =>
      clear HC8
      try clear c2
      try clear p2
      try clear c3
      try clear c4
      try clear p6
      try clear c7
      try clear c7b0
      try clear c7b1
      try clear c9
      try clear c9b0
      try clear c9b1
      obtain ⟨kq, x36_7, rfl, HA, HJ7, HO_3, HO_4, HB⟩ := hcut
      cases kq with
      | zero => exact absurd HA.out (by simp [culletref16_Fresh.j0])
      | succ kj7 =>
        have H := HA.out
        clear HA
        simp only [culletref16_Fresh.j0] at H
        by_cases c10 : x36_7 = true
        · subst c10
          have H1 : (some (0, ([] : List Int), 160)) = some (r1, r2, r3) := by rw [if_pos rfl] at H; exact H
          clear H
          have H := H1
          clear H1
          simp only [Option.some.injEq, Prod.mk.injEq] at H
          obtain ⟨rfl, rfl, rfl⟩ := H
          go_wp2
          go_ret3
          exact ⟨_, by first | rfl | (simp [ewN, ewS] <;> rfl) | (simp [*, ewN, ewS] <;> rfl), by first | exact Kd.R_nil _ _ _ _ _ | exact Kd.N_nil _ _ _ _ _ | exact Kd.V_nil _ _ _ _ _ | exact Kd.Q_nil _ _ _ _ _ | exact Kd.S_nil _ _ _ _ _, by repeat (first | (with_reducible first | exact HB.out | apply bwA | apply bwN | apply bw1) | exact HB.out)⟩
        · replace c10 := Bool.eq_false_iff.mpr c10
          subst c10
          have H1 : ((culletref16_empties.f kj7 l3).bind fun t376 => (if (t376.length : Int) > 0 then (some (0, ([] : List Int), 161)) else ((some (([] : List (List Int)) : List (List Int))).bind fun y379 => (if y379.length + l3.length < 5864062014805 then ((some (y379 ++ l3 : List (List Int))).bind fun y382 => (if y382.length + l4.length < 5864062014805 then ((culletref16_unlike.f kj7 (y382 ++ l4) true).bind fun t388 => (if t388 = true then (some (0, ([] : List Int), 162)) else ((culletref16_longest.f kj7 l3).bind fun t389 => (if a0 = 2 then (culletref16_Fresh.j1 kj7 a1 l4 t389 ((Int.tmod t389 2) == 1)) else (culletref16_Fresh.j1 kj7 a1 l4 t389 false))))) else (none))) else (none))))) = some (r1, r2, r3) := by rw [if_neg (show ¬ (false = true) by decide)] at H; exact H
          clear H
          have H := H1
          clear H1
          replace H := Option.bind_eq_some_iff.mp H
          obtain ⟨t376, A110, H⟩ := H
          try dsimp only at H
          have A11 := Z0.mk A110
          clear A110
          by_cases c12 : (t376.length : Int) > 0
          · rw [if_pos c12] at H
            have c12b0 : decide (0 < (t376.length : Int)) = true := decide_eq_true c12
            have c12b1 : decide (0 < t376.length) = true := decide_eq_true (by omega)
            clear c12
            simp only [Option.some.injEq, Prod.mk.injEq] at H
            obtain ⟨rfl, rfl, rfl⟩ := H
            go_wp2_with (first | ((with_reducible refine gate_callee (f := 48) rfl ?_); refine goesL_ (some 38) rfl rfl Try.func48 (by kernel_rfl) rfl #[.slice A3 l3.length c3] rfl (by (try simp only [List.map_toArray, List.map_cons, List.map_nil]); first | done | rfl | (simp only [List.length_drop, List.length_take]; rfl)) ?_; (with_reducible refine (culletref16_empties.calls kj7 _ _ l3 t376 _ ?side1 ?side2 A11.out).mono ?_); (case side1 => repeat (first | exact (Kd.V_reads' HO_3.out).2.2 | (with_reducible refine Kd.C_alloc ?_ _) | (with_reducible refine Kd.C_drewN ?_ _) | (with_reducible refine Kd.C_drew ?_))); (case side2 => exact (Kd.V_reads' HO_3.out).2.1); rintro e w13 ⟨v377, rfl, ho0, hb⟩; refine ⟨_, rfl, ?_⟩; have n0_ := Z0.mk (Kd.V_elder' (by (with_reducible repeat (first | apply Kd.V_alloc | apply Kd.V_drewN | apply Kd.V_drew)); exact HO_3.out) (Kd.R_base ho0) hb); have n1_ := Z0.mk (Kd.V_elder' (by (with_reducible repeat (first | apply Kd.V_alloc | apply Kd.V_drewN | apply Kd.V_drew)); exact HO_4.out) (Kd.R_base ho0) hb); have n2_ := Z0.mk (Kd.R_lower (Kd.R_newM (M := fun k_ => (w.heap.size ≤ k_)) ho0 (bwZ (by repeat (first | (with_reducible first | exact HB.out | apply bwA | apply bwN | apply bw1) | exact HB.out))) (fun k_ h_ => h_)) (bwZ (by repeat (first | (with_reducible first | exact HB.out | apply bwA | apply bwN | apply bw1) | exact HB.out)))); have n3_ := Z0.mk (bwT (by repeat (first | (with_reducible first | exact HB.out | apply bwA | apply bwN | apply bw1) | exact HB.out)) hb); clear HO_3; clear HO_4; clear HB; have HO_3 := n0_; have HO_4 := n1_; have HO378 := n2_; have HB := n3_; clear n0_ n1_ n2_ n3_; (try clear hb); (try clear hb2); (try clear hk); (try clear hi); (try clear ho0); obtain ⟨Ao14, co14, eo14⟩ := Kd.R_slice HO378.out; subst eo14))
            go_ret3
            exact ⟨_, by first | rfl | (simp [ewN, ewS] <;> rfl) | (simp [*, ewN, ewS] <;> rfl), by first | exact Kd.R_nil _ _ _ _ _ | exact Kd.N_nil _ _ _ _ _ | exact Kd.V_nil _ _ _ _ _ | exact Kd.Q_nil _ _ _ _ _ | exact Kd.S_nil _ _ _ _ _, by repeat (first | (with_reducible first | exact HB.out | apply bwA | apply bwN | apply bw1) | exact HB.out)⟩
          · rw [if_neg c12] at H
            have c12b0 : decide (0 < (t376.length : Int)) = false := decide_eq_false c12
            have c12b1 : decide (0 < t376.length) = false := decide_eq_false (by omega)
            clear c12
            obtain ⟨y379, hy379⟩ : ∃ y_ : List (List Int), y_ = (([] : List (List Int))) := ⟨_, rfl⟩
            replace H : (if y379.length + l3.length < 5864062014805 then ((some (y379 ++ l3 : List (List Int))).bind fun y382 => (if y382.length + l4.length < 5864062014805 then ((culletref16_unlike.f kj7 (y382 ++ l4) true).bind fun t388 => (if t388 = true then (some (0, ([] : List Int), 162)) else ((culletref16_longest.f kj7 l3).bind fun t389 => (if a0 = 2 then (culletref16_Fresh.j1 kj7 a1 l4 t389 ((Int.tmod t389 2) == 1)) else (culletref16_Fresh.j1 kj7 a1 l4 t389 false))))) else (none))) else (none)) = some (r1, r2, r3) := by first | (rw [hy379]; with_reducible exact H) | (have H2_ := (Option.bind_some _ _).symm.trans H; rw [hy379]; with_reducible exact H2_) | (have H2_ := (Option.bind_some _ _).symm.trans H; with_reducible exact H2_) | with_reducible exact H | (rw [hy379]; exact H) | exact H
            have Ny379 := Z0.mk hy379
            clear hy379
            by_cases c15 : y379.length + l3.length < 5864062014805
            · rw [if_pos c15] at H
              have LMc15 := Z0.mk c15
              clear c15
              obtain ⟨y382, hy382⟩ : ∃ y_ : List (List Int), y_ = (y379 ++ l3) := ⟨_, rfl⟩
              replace H : (if y382.length + l4.length < 5864062014805 then ((culletref16_unlike.f kj7 (y382 ++ l4) true).bind fun t388 => (if t388 = true then (some (0, ([] : List Int), 162)) else ((culletref16_longest.f kj7 l3).bind fun t389 => (if a0 = 2 then (culletref16_Fresh.j1 kj7 a1 l4 t389 ((Int.tmod t389 2) == 1)) else (culletref16_Fresh.j1 kj7 a1 l4 t389 false))))) else (none)) = some (r1, r2, r3) := by first | (rw [hy382]; with_reducible exact H) | (have H2_ := (Option.bind_some _ _).symm.trans H; rw [hy382]; with_reducible exact H2_) | (have H2_ := (Option.bind_some _ _).symm.trans H; with_reducible exact H2_) | with_reducible exact H | (rw [hy382]; exact H) | exact H
              have Ny382 := Z0.mk hy382
              clear hy382
              by_cases c16 : y382.length + l4.length < 5864062014805
              · rw [if_pos c16] at H
                have LMc16 := Z0.mk c16
                clear c16
                obtain ⟨y385, hy385⟩ : ∃ y_ : List (List Int), y_ = (y382 ++ l4) := ⟨_, rfl⟩
                replace H : ((culletref16_unlike.f kj7 y385 true).bind fun t388 => (if t388 = true then (some (0, ([] : List Int), 162)) else ((culletref16_longest.f kj7 l3).bind fun t389 => (if a0 = 2 then (culletref16_Fresh.j1 kj7 a1 l4 t389 ((Int.tmod t389 2) == 1)) else (culletref16_Fresh.j1 kj7 a1 l4 t389 false))))) = some (r1, r2, r3) := by first | (rw [hy385]; with_reducible exact H) | (have H2_ := (Option.bind_some _ _).symm.trans H; rw [hy385]; with_reducible exact H2_) | (have H2_ := (Option.bind_some _ _).symm.trans H; with_reducible exact H2_) | with_reducible exact H | (rw [hy385]; exact H) | exact H
                have Ny385 := Z0.mk hy385
                clear hy385
                replace H := Option.bind_eq_some_iff.mp H
                obtain ⟨t388, A170, H⟩ := H
                try dsimp only at H
                have A17 := Z0.mk A170
                clear A170
                by_cases c18 : t388 = true
                · subst c18
                  have H1 : (some (0, ([] : List Int), 162)) = some (r1, r2, r3) := by rw [if_pos rfl] at H; exact H
                  clear H
                  have H := H1
                  clear H1
                  simp only [Option.some.injEq, Prod.mk.injEq] at H
                  obtain ⟨rfl, rfl, rfl⟩ := H
                  go_wp2_with (first | ((with_reducible refine gate_callee (f := 48) rfl ?_); refine goesL_ (some 38) rfl rfl Try.func48 (by kernel_rfl) rfl #[.slice A3 l3.length c3] rfl (by (try simp only [List.map_toArray, List.map_cons, List.map_nil]); first | done | rfl | (simp only [List.length_drop, List.length_take]; rfl)) ?_; (with_reducible refine (culletref16_empties.calls kj7 _ _ l3 t376 _ ?side1 ?side2 A11.out).mono ?_); (case side1 => repeat (first | exact (Kd.V_reads' HO_3.out).2.2 | (with_reducible refine Kd.C_alloc ?_ _) | (with_reducible refine Kd.C_drewN ?_ _) | (with_reducible refine Kd.C_drew ?_))); (case side2 => exact (Kd.V_reads' HO_3.out).2.1); rintro e w19 ⟨v377, rfl, ho0, hb⟩; refine ⟨_, rfl, ?_⟩; have n0_ := Z0.mk (Kd.V_elder' (by (with_reducible repeat (first | apply Kd.V_alloc | apply Kd.V_drewN | apply Kd.V_drew)); exact HO_3.out) (Kd.R_base ho0) hb); have n1_ := Z0.mk (Kd.V_elder' (by (with_reducible repeat (first | apply Kd.V_alloc | apply Kd.V_drewN | apply Kd.V_drew)); exact HO_4.out) (Kd.R_base ho0) hb); have n2_ := Z0.mk (Kd.R_lower (Kd.R_newM (M := fun k_ => (w.heap.size ≤ k_)) ho0 (bwZ (by repeat (first | (with_reducible first | exact HB.out | apply bwA | apply bwN | apply bw1) | exact HB.out))) (fun k_ h_ => h_)) (bwZ (by repeat (first | (with_reducible first | exact HB.out | apply bwA | apply bwN | apply bw1) | exact HB.out)))); have n3_ := Z0.mk (bwT (by repeat (first | (with_reducible first | exact HB.out | apply bwA | apply bwN | apply bw1) | exact HB.out)) hb); clear HO_3; clear HO_4; clear HB; have HO_3 := n0_; have HO_4 := n1_; have HO378 := n2_; have HB := n3_; clear n0_ n1_ n2_ n3_; (try clear hb); (try clear hb2); (try clear hk); (try clear hi); (try clear ho0); obtain ⟨Ao20, co20, eo20⟩ := Kd.R_slice HO378.out; subst eo20) | ((with_reducible refine gate_dst (N := 41) rfl ?_); (try (refine gate_guard (by rfl) ?_; dsimp only)); refine Kd.N_lit (Kd.slice 5 (Kd.int .u8)) _ 27 ?hg (N' := 41) ?hd (xs := ([] : List (List Int))) (inner := []) (ok := (fun k_ => ((P3_ k_ ∨ P4_ k_) ∨ w.heap.size ≤ k_) ∧ some k_ ≠ (.slice Ao20 t376.length co20 : Value).ownBlock)) (okp := (fun k_ => ((P3_ k_ ∨ P4_ k_) ∨ w.heap.size ≤ k_) ∧ some k_ ≠ (.slice Ao20 t376.length co20 : Value).ownBlock)) ?hr ?hp (fun _ hk => hk) ((show ∀ k_, w19.heap.size ≤ k_ → (fun k_ => ((P3_ k_ ∨ P4_ k_) ∨ w.heap.size ≤ k_) ∧ some k_ ≠ (.slice Ao20 t376.length co20 : Value).ownBlock) k_ from fun k_ hk => ⟨(.inr (Nat.le_trans (bwZ (by repeat (first | (with_reducible first | exact HB.out | apply bwA | apply bwN | apply bw1) | exact HB.out))) hk)), Kd.fresh' (Kd.R_lt (by (with_reducible repeat (first | apply Kd.R_alloc | apply Kd.R_drewN | apply Kd.R_drew)); exact HO378.out)) k_ hk⟩) _ (Nat.le_refl _)) (Below.refl _ _) (Nat.le_refl _) (by simp) ?_; (case hd => rfl); (case hg => rfl); (case hr => first | (go_simp; done) | (go_simp; rfl)); (case hp => exact (Reps.none _ _)); intro v380 w21 ho22 hb hg_ hnew_; clear hg_ hnew_; (first | rw [← Ny379.out] at ho22 | (simp only [Int.reduceToNat] at ho22; rw [← Ny379.out] at ho22)); have n0_ := Z0.mk (Kd.V_elder' (by (with_reducible repeat (first | apply Kd.V_alloc | apply Kd.V_drewN | apply Kd.V_drew)); exact HO_3.out) (Kd.N_base ho22) hb); have n1_ := Z0.mk (Kd.V_elder' (by (with_reducible repeat (first | apply Kd.V_alloc | apply Kd.V_drewN | apply Kd.V_drew)); exact HO_4.out) (Kd.N_base ho22) hb); have n2_ := Z0.mk (Kd.R_below (by (with_reducible repeat (first | apply Kd.R_alloc | apply Kd.R_drewN | apply Kd.R_drew)); exact HO378.out) hb); have n3_ := Z0.mk (Kd.N_lower ho22 (bwZ (by repeat (first | (with_reducible first | exact HB.out | apply bwA | apply bwN | apply bw1) | exact HB.out)))); have n4_ := Z0.mk (bwT (by repeat (first | (with_reducible first | exact HB.out | apply bwA | apply bwN | apply bw1) | exact HB.out)) hb); clear HO_3; clear HO_4; clear HO378; clear HB; have HO_3 := n0_; have HO_4 := n1_; have HO378 := n2_; have HO381 := n3_; have HB := n4_; clear n0_ n1_ n2_ n3_ n4_; clear hb ho22) | ((with_reducible refine gate_builtin (b := .append) (xs := #[.tmp 41, .tmp 42]) rfl ?_); (try (refine gate_guard (by rfl) ?_; dsimp only)); at_builtin; refine Kd.N_append_rows (Kd.slice 5 (Kd.int .u8)) (w0 := w) w.heap.size rfl (.tmp 41) (.tmp 42) 22 27 (.slice none 0 0) 24 rfl Try.underlying22 info27 rfl (by decide) (by omega) v380 y379 l3 _ _ _ (fun k_ => ((P3_ k_ ∨ P4_ k_) ∨ w.heap.size ≤ k_) ∧ some k_ ≠ (.slice Ao20 t376.length co20 : Value).ownBlock) (fun k_ => ((fun k_ => ((P3_ k_ ∨ P4_ k_) ∨ w.heap.size ≤ k_) ∧ some k_ ≠ (.slice Ao20 t376.length co20 : Value).ownBlock)) k_ ∧ some k_ ≠ (v380 : Value).ownBlock) rfl rfl ?aO ?aR (fun _ hk => hk) ?aF ?aB ?aS ?aL ?_; (case aR => exact (by skip; exact Kd.V_F (Kd.V_mono (ok' := (fun k_ => ((fun k_ => ((P3_ k_ ∨ P4_ k_) ∨ w.heap.size ≤ k_) ∧ some k_ ≠ (.slice Ao20 t376.length co20 : Value).ownBlock)) k_ ∧ some k_ ≠ (v380 : Value).ownBlock)) (HO_3.out) (fun k_ hk => ⟨⟨hk.1.1, hk.1.2⟩, hk.2⟩)))); (case aB => exact (by repeat (first | (with_reducible first | exact HB.out | apply bwA | apply bwN | apply bw1) | exact HB.out))); (case aF => exact (fun k_ hk => ⟨(.inr (Nat.le_trans (bwZ (by repeat (first | (with_reducible first | exact HB.out | apply bwA | apply bwN | apply bw1) | exact HB.out))) hk)), Kd.fresh' (Kd.R_lt (by (with_reducible repeat (first | apply Kd.R_alloc | apply Kd.R_drewN | apply Kd.R_drew)); exact HO378.out)) k_ hk⟩)); (case aO => exact (by (with_reducible repeat (first | apply Kd.N_alloc | apply Kd.N_drewN | apply Kd.N_drew)); exact HO381.out)); (case aS => exact (bwZ (by repeat (first | (with_reducible first | exact HB.out | apply bwA | apply bwN | apply bw1) | exact HB.out)))); (case aL => have := LMc15.out; omega); intro v383 w23 ho hb hg hat; rw [← Ny382.out] at ho; have n0_ := Z0.mk (Kd.V_afterv (ok := (fun k_ => ((P3_ k_ ∨ P4_ k_) ∨ w.heap.size ≤ k_) ∧ some k_ ≠ (.slice Ao20 t376.length co20 : Value).ownBlock)) (by (with_reducible repeat (first | apply Kd.V_alloc | apply Kd.V_drewN | apply Kd.V_drew)); exact HO_3.out) hg hat); have n1_ := Z0.mk (Kd.V_afterv (ok := (fun k_ => ((P3_ k_ ∨ P4_ k_) ∨ w.heap.size ≤ k_) ∧ some k_ ≠ (.slice Ao20 t376.length co20 : Value).ownBlock)) (by (with_reducible repeat (first | apply Kd.V_alloc | apply Kd.V_drewN | apply Kd.V_drew)); exact HO_4.out) hg hat); have n2_ := Z0.mk (Kd.R_over' (by (with_reducible repeat (first | apply Kd.R_alloc | apply Kd.R_drewN | apply Kd.R_drew)); exact HO378.out) (Kd.N_typed (by (with_reducible repeat (first | apply Kd.N_alloc | apply Kd.N_drewN | apply Kd.N_drew)); exact HO381.out)) (by decide) hg); have n3_ := Z0.mk (hb); have n4_ := Z0.mk (ho); clear HO_3; clear HO_4; clear HO378; clear HB; clear HO381; have HO_3 := n0_; have HO_4 := n1_; have HO378 := n2_; have HB := n3_; have HO384 := n4_; clear n0_ n1_ n2_ n3_ n4_; clear ho hb hg hat) | ((with_reducible refine gate_builtin (b := .append) (xs := #[.tmp 43, .tmp 44]) rfl ?_); (try (refine gate_guard (by rfl) ?_; dsimp only)); at_builtin; refine Kd.N_append_rows (Kd.slice 5 (Kd.int .u8)) (w0 := w) w.heap.size rfl (.tmp 43) (.tmp 44) 22 27 (.slice none 0 0) 24 rfl Try.underlying22 info27 rfl (by decide) (by omega) v383 y382 l4 _ _ _ (fun k_ => ((P3_ k_ ∨ P4_ k_) ∨ w.heap.size ≤ k_) ∧ some k_ ≠ (.slice Ao20 t376.length co20 : Value).ownBlock) (fun k_ => ((fun k_ => ((P3_ k_ ∨ P4_ k_) ∨ w.heap.size ≤ k_) ∧ some k_ ≠ (.slice Ao20 t376.length co20 : Value).ownBlock)) k_ ∧ some k_ ≠ (v383 : Value).ownBlock) rfl rfl ?aO ?aR (fun _ hk => hk) ?aF ?aB ?aS ?aL ?_; (case aR => exact (by skip; exact Kd.V_F (Kd.V_mono (ok' := (fun k_ => ((fun k_ => ((P3_ k_ ∨ P4_ k_) ∨ w.heap.size ≤ k_) ∧ some k_ ≠ (.slice Ao20 t376.length co20 : Value).ownBlock)) k_ ∧ some k_ ≠ (v383 : Value).ownBlock)) (HO_4.out) (fun k_ hk => ⟨⟨hk.1.1, hk.1.2⟩, hk.2⟩)))); (case aB => exact (by repeat (first | (with_reducible first | exact HB.out | apply bwA | apply bwN | apply bw1) | exact HB.out))); (case aF => exact (fun k_ hk => ⟨(.inr (Nat.le_trans (bwZ (by repeat (first | (with_reducible first | exact HB.out | apply bwA | apply bwN | apply bw1) | exact HB.out))) hk)), Kd.fresh' (Kd.R_lt (by (with_reducible repeat (first | apply Kd.R_alloc | apply Kd.R_drewN | apply Kd.R_drew)); exact HO378.out)) k_ hk⟩)); (case aO => exact (by (with_reducible repeat (first | apply Kd.N_alloc | apply Kd.N_drewN | apply Kd.N_drew)); exact HO384.out)); (case aS => exact (bwZ (by repeat (first | (with_reducible first | exact HB.out | apply bwA | apply bwN | apply bw1) | exact HB.out)))); (case aL => have := LMc16.out; omega); intro v386 w24 ho hb hg hat; rw [← Ny385.out] at ho; have n0_ := Z0.mk (Kd.V_afterv (ok := (fun k_ => ((P3_ k_ ∨ P4_ k_) ∨ w.heap.size ≤ k_) ∧ some k_ ≠ (.slice Ao20 t376.length co20 : Value).ownBlock)) (by (with_reducible repeat (first | apply Kd.V_alloc | apply Kd.V_drewN | apply Kd.V_drew)); exact HO_3.out) hg hat); have n1_ := Z0.mk (Kd.V_afterv (ok := (fun k_ => ((P3_ k_ ∨ P4_ k_) ∨ w.heap.size ≤ k_) ∧ some k_ ≠ (.slice Ao20 t376.length co20 : Value).ownBlock)) (by (with_reducible repeat (first | apply Kd.V_alloc | apply Kd.V_drewN | apply Kd.V_drew)); exact HO_4.out) hg hat); have n2_ := Z0.mk (Kd.R_over' (by (with_reducible repeat (first | apply Kd.R_alloc | apply Kd.R_drewN | apply Kd.R_drew)); exact HO378.out) (Kd.N_typed (by (with_reducible repeat (first | apply Kd.N_alloc | apply Kd.N_drewN | apply Kd.N_drew)); exact HO384.out)) (by decide) hg); have n3_ := Z0.mk (hb); have n4_ := Z0.mk (ho); clear HO_3; clear HO_4; clear HO378; clear HB; clear HO384; have HO_3 := n0_; have HO_4 := n1_; have HO378 := n2_; have HB := n3_; have HO387 := n4_; clear n0_ n1_ n2_ n3_ n4_; clear ho hb hg hat; obtain ⟨Ao25, co25, eo25⟩ := Kd.N_slice HO387.out; subst eo25) | ((with_reducible refine gate_callee (f := 49) rfl ?_); refine goesL_ (some 47) rfl rfl Try.func49 (by kernel_rfl) rfl #[.slice Ao25 y385.length co25, .bool true] rfl (by (try simp only [List.map_toArray, List.map_cons, List.map_nil]); first | done | rfl | (simp only [List.length_drop, List.length_take]; rfl)) ?_; (with_reducible refine (culletref16_unlike.calls kj7 _ _ y385 true true _ ?side1 ?side2 A17.out).mono ?_); (case side1 => repeat (first | exact (Kd.N_reads' HO387.out).2.2 | (with_reducible refine Kd.C_alloc ?_ _) | (with_reducible refine Kd.C_drewN ?_ _) | (with_reducible refine Kd.C_drew ?_))); (case side2 => exact (Kd.N_reads' HO387.out).2.1); rintro e w' ⟨rfl, ⟨nd, rfl⟩⟩; refine ⟨_, rfl, ?_⟩))
                  go_ret3
                  exact ⟨_, by first | rfl | (simp [ewN, ewS] <;> rfl) | (simp [*, ewN, ewS] <;> rfl), by first | exact Kd.R_nil _ _ _ _ _ | exact Kd.N_nil _ _ _ _ _ | exact Kd.V_nil _ _ _ _ _ | exact Kd.Q_nil _ _ _ _ _ | exact Kd.S_nil _ _ _ _ _, by repeat (first | (with_reducible first | exact HB.out | apply bwA | apply bwN | apply bw1) | exact HB.out)⟩
                · replace c18 := Bool.eq_false_iff.mpr c18
                  subst c18
                  have H1 : ((culletref16_longest.f kj7 l3).bind fun t389 => (if a0 = 2 then (culletref16_Fresh.j1 kj7 a1 l4 t389 ((Int.tmod t389 2) == 1)) else (culletref16_Fresh.j1 kj7 a1 l4 t389 false))) = some (r1, r2, r3) := by rw [if_neg (show ¬ (false = true) by decide)] at H; exact H
                  clear H
                  have H := H1
                  clear H1
                  replace H := Option.bind_eq_some_iff.mp H
                  obtain ⟨t389, A260, H⟩ := H
                  try dsimp only at H
                  have A26 := Z0.mk A260
                  clear A260
                  have HC27 := Z0.mk H
                  clear H
                  go_upto_region 12 with (first | ((with_reducible refine gate_callee (f := 48) rfl ?_); refine goesL_ (some 38) rfl rfl Try.func48 (by kernel_rfl) rfl #[.slice A3 l3.length c3] rfl (by (try simp only [List.map_toArray, List.map_cons, List.map_nil]); first | done | rfl | (simp only [List.length_drop, List.length_take]; rfl)) ?_; (with_reducible refine (culletref16_empties.calls kj7 _ _ l3 t376 _ ?side1 ?side2 A11.out).mono ?_); (case side1 => repeat (first | exact (Kd.V_reads' HO_3.out).2.2 | (with_reducible refine Kd.C_alloc ?_ _) | (with_reducible refine Kd.C_drewN ?_ _) | (with_reducible refine Kd.C_drew ?_))); (case side2 => exact (Kd.V_reads' HO_3.out).2.1); rintro e w28 ⟨v377, rfl, ho0, hb⟩; refine ⟨_, rfl, ?_⟩; have n0_ := Z0.mk (Kd.V_elder' (by (with_reducible repeat (first | apply Kd.V_alloc | apply Kd.V_drewN | apply Kd.V_drew)); exact HO_3.out) (Kd.R_base ho0) hb); have n1_ := Z0.mk (Kd.V_elder' (by (with_reducible repeat (first | apply Kd.V_alloc | apply Kd.V_drewN | apply Kd.V_drew)); exact HO_4.out) (Kd.R_base ho0) hb); have n2_ := Z0.mk (Kd.R_lower (Kd.R_newM (M := fun k_ => (w.heap.size ≤ k_)) ho0 (bwZ (by repeat (first | (with_reducible first | exact HB.out | apply bwA | apply bwN | apply bw1) | exact HB.out))) (fun k_ h_ => h_)) (bwZ (by repeat (first | (with_reducible first | exact HB.out | apply bwA | apply bwN | apply bw1) | exact HB.out)))); have n3_ := Z0.mk (bwT (by repeat (first | (with_reducible first | exact HB.out | apply bwA | apply bwN | apply bw1) | exact HB.out)) hb); clear HO_3; clear HO_4; clear HB; have HO_3 := n0_; have HO_4 := n1_; have HO378 := n2_; have HB := n3_; clear n0_ n1_ n2_ n3_; (try clear hb); (try clear hb2); (try clear hk); (try clear hi); (try clear ho0); obtain ⟨Ao29, co29, eo29⟩ := Kd.R_slice HO378.out; subst eo29) | ((with_reducible refine gate_dst (N := 41) rfl ?_); (try (refine gate_guard (by rfl) ?_; dsimp only)); refine Kd.N_lit (Kd.slice 5 (Kd.int .u8)) _ 27 ?hg (N' := 41) ?hd (xs := ([] : List (List Int))) (inner := []) (ok := (fun k_ => ((P3_ k_ ∨ P4_ k_) ∨ w.heap.size ≤ k_) ∧ some k_ ≠ (.slice Ao29 t376.length co29 : Value).ownBlock)) (okp := (fun k_ => ((P3_ k_ ∨ P4_ k_) ∨ w.heap.size ≤ k_) ∧ some k_ ≠ (.slice Ao29 t376.length co29 : Value).ownBlock)) ?hr ?hp (fun _ hk => hk) ((show ∀ k_, w28.heap.size ≤ k_ → (fun k_ => ((P3_ k_ ∨ P4_ k_) ∨ w.heap.size ≤ k_) ∧ some k_ ≠ (.slice Ao29 t376.length co29 : Value).ownBlock) k_ from fun k_ hk => ⟨(.inr (Nat.le_trans (bwZ (by repeat (first | (with_reducible first | exact HB.out | apply bwA | apply bwN | apply bw1) | exact HB.out))) hk)), Kd.fresh' (Kd.R_lt (by (with_reducible repeat (first | apply Kd.R_alloc | apply Kd.R_drewN | apply Kd.R_drew)); exact HO378.out)) k_ hk⟩) _ (Nat.le_refl _)) (Below.refl _ _) (Nat.le_refl _) (by simp) ?_; (case hd => rfl); (case hg => rfl); (case hr => first | (go_simp; done) | (go_simp; rfl)); (case hp => exact (Reps.none _ _)); intro v380 w30 ho31 hb hg_ hnew_; clear hg_ hnew_; (first | rw [← Ny379.out] at ho31 | (simp only [Int.reduceToNat] at ho31; rw [← Ny379.out] at ho31)); have n0_ := Z0.mk (Kd.V_elder' (by (with_reducible repeat (first | apply Kd.V_alloc | apply Kd.V_drewN | apply Kd.V_drew)); exact HO_3.out) (Kd.N_base ho31) hb); have n1_ := Z0.mk (Kd.V_elder' (by (with_reducible repeat (first | apply Kd.V_alloc | apply Kd.V_drewN | apply Kd.V_drew)); exact HO_4.out) (Kd.N_base ho31) hb); have n2_ := Z0.mk (Kd.R_below (by (with_reducible repeat (first | apply Kd.R_alloc | apply Kd.R_drewN | apply Kd.R_drew)); exact HO378.out) hb); have n3_ := Z0.mk (Kd.N_lower ho31 (bwZ (by repeat (first | (with_reducible first | exact HB.out | apply bwA | apply bwN | apply bw1) | exact HB.out)))); have n4_ := Z0.mk (bwT (by repeat (first | (with_reducible first | exact HB.out | apply bwA | apply bwN | apply bw1) | exact HB.out)) hb); clear HO_3; clear HO_4; clear HO378; clear HB; have HO_3 := n0_; have HO_4 := n1_; have HO378 := n2_; have HO381 := n3_; have HB := n4_; clear n0_ n1_ n2_ n3_ n4_; clear hb ho31) | ((with_reducible refine gate_builtin (b := .append) (xs := #[.tmp 41, .tmp 42]) rfl ?_); (try (refine gate_guard (by rfl) ?_; dsimp only)); at_builtin; refine Kd.N_append_rows (Kd.slice 5 (Kd.int .u8)) (w0 := w) w.heap.size rfl (.tmp 41) (.tmp 42) 22 27 (.slice none 0 0) 24 rfl Try.underlying22 info27 rfl (by decide) (by omega) v380 y379 l3 _ _ _ (fun k_ => ((P3_ k_ ∨ P4_ k_) ∨ w.heap.size ≤ k_) ∧ some k_ ≠ (.slice Ao29 t376.length co29 : Value).ownBlock) (fun k_ => ((fun k_ => ((P3_ k_ ∨ P4_ k_) ∨ w.heap.size ≤ k_) ∧ some k_ ≠ (.slice Ao29 t376.length co29 : Value).ownBlock)) k_ ∧ some k_ ≠ (v380 : Value).ownBlock) rfl rfl ?aO ?aR (fun _ hk => hk) ?aF ?aB ?aS ?aL ?_; (case aR => exact (by skip; exact Kd.V_F (Kd.V_mono (ok' := (fun k_ => ((fun k_ => ((P3_ k_ ∨ P4_ k_) ∨ w.heap.size ≤ k_) ∧ some k_ ≠ (.slice Ao29 t376.length co29 : Value).ownBlock)) k_ ∧ some k_ ≠ (v380 : Value).ownBlock)) (HO_3.out) (fun k_ hk => ⟨⟨hk.1.1, hk.1.2⟩, hk.2⟩)))); (case aB => exact (by repeat (first | (with_reducible first | exact HB.out | apply bwA | apply bwN | apply bw1) | exact HB.out))); (case aF => exact (fun k_ hk => ⟨(.inr (Nat.le_trans (bwZ (by repeat (first | (with_reducible first | exact HB.out | apply bwA | apply bwN | apply bw1) | exact HB.out))) hk)), Kd.fresh' (Kd.R_lt (by (with_reducible repeat (first | apply Kd.R_alloc | apply Kd.R_drewN | apply Kd.R_drew)); exact HO378.out)) k_ hk⟩)); (case aO => exact (by (with_reducible repeat (first | apply Kd.N_alloc | apply Kd.N_drewN | apply Kd.N_drew)); exact HO381.out)); (case aS => exact (bwZ (by repeat (first | (with_reducible first | exact HB.out | apply bwA | apply bwN | apply bw1) | exact HB.out)))); (case aL => have := LMc15.out; omega); intro v383 w32 ho hb hg hat; rw [← Ny382.out] at ho; have n0_ := Z0.mk (Kd.V_afterv (ok := (fun k_ => ((P3_ k_ ∨ P4_ k_) ∨ w.heap.size ≤ k_) ∧ some k_ ≠ (.slice Ao29 t376.length co29 : Value).ownBlock)) (by (with_reducible repeat (first | apply Kd.V_alloc | apply Kd.V_drewN | apply Kd.V_drew)); exact HO_3.out) hg hat); have n1_ := Z0.mk (Kd.V_afterv (ok := (fun k_ => ((P3_ k_ ∨ P4_ k_) ∨ w.heap.size ≤ k_) ∧ some k_ ≠ (.slice Ao29 t376.length co29 : Value).ownBlock)) (by (with_reducible repeat (first | apply Kd.V_alloc | apply Kd.V_drewN | apply Kd.V_drew)); exact HO_4.out) hg hat); have n2_ := Z0.mk (Kd.R_over' (by (with_reducible repeat (first | apply Kd.R_alloc | apply Kd.R_drewN | apply Kd.R_drew)); exact HO378.out) (Kd.N_typed (by (with_reducible repeat (first | apply Kd.N_alloc | apply Kd.N_drewN | apply Kd.N_drew)); exact HO381.out)) (by decide) hg); have n3_ := Z0.mk (hb); have n4_ := Z0.mk (ho); clear HO_3; clear HO_4; clear HO378; clear HB; clear HO381; have HO_3 := n0_; have HO_4 := n1_; have HO378 := n2_; have HB := n3_; have HO384 := n4_; clear n0_ n1_ n2_ n3_ n4_; clear ho hb hg hat) | ((with_reducible refine gate_builtin (b := .append) (xs := #[.tmp 43, .tmp 44]) rfl ?_); (try (refine gate_guard (by rfl) ?_; dsimp only)); at_builtin; refine Kd.N_append_rows (Kd.slice 5 (Kd.int .u8)) (w0 := w) w.heap.size rfl (.tmp 43) (.tmp 44) 22 27 (.slice none 0 0) 24 rfl Try.underlying22 info27 rfl (by decide) (by omega) v383 y382 l4 _ _ _ (fun k_ => ((P3_ k_ ∨ P4_ k_) ∨ w.heap.size ≤ k_) ∧ some k_ ≠ (.slice Ao29 t376.length co29 : Value).ownBlock) (fun k_ => ((fun k_ => ((P3_ k_ ∨ P4_ k_) ∨ w.heap.size ≤ k_) ∧ some k_ ≠ (.slice Ao29 t376.length co29 : Value).ownBlock)) k_ ∧ some k_ ≠ (v383 : Value).ownBlock) rfl rfl ?aO ?aR (fun _ hk => hk) ?aF ?aB ?aS ?aL ?_; (case aR => exact (by skip; exact Kd.V_F (Kd.V_mono (ok' := (fun k_ => ((fun k_ => ((P3_ k_ ∨ P4_ k_) ∨ w.heap.size ≤ k_) ∧ some k_ ≠ (.slice Ao29 t376.length co29 : Value).ownBlock)) k_ ∧ some k_ ≠ (v383 : Value).ownBlock)) (HO_4.out) (fun k_ hk => ⟨⟨hk.1.1, hk.1.2⟩, hk.2⟩)))); (case aB => exact (by repeat (first | (with_reducible first | exact HB.out | apply bwA | apply bwN | apply bw1) | exact HB.out))); (case aF => exact (fun k_ hk => ⟨(.inr (Nat.le_trans (bwZ (by repeat (first | (with_reducible first | exact HB.out | apply bwA | apply bwN | apply bw1) | exact HB.out))) hk)), Kd.fresh' (Kd.R_lt (by (with_reducible repeat (first | apply Kd.R_alloc | apply Kd.R_drewN | apply Kd.R_drew)); exact HO378.out)) k_ hk⟩)); (case aO => exact (by (with_reducible repeat (first | apply Kd.N_alloc | apply Kd.N_drewN | apply Kd.N_drew)); exact HO384.out)); (case aS => exact (bwZ (by repeat (first | (with_reducible first | exact HB.out | apply bwA | apply bwN | apply bw1) | exact HB.out)))); (case aL => have := LMc16.out; omega); intro v386 w33 ho hb hg hat; rw [← Ny385.out] at ho; have n0_ := Z0.mk (Kd.V_afterv (ok := (fun k_ => ((P3_ k_ ∨ P4_ k_) ∨ w.heap.size ≤ k_) ∧ some k_ ≠ (.slice Ao29 t376.length co29 : Value).ownBlock)) (by (with_reducible repeat (first | apply Kd.V_alloc | apply Kd.V_drewN | apply Kd.V_drew)); exact HO_3.out) hg hat); have n1_ := Z0.mk (Kd.V_afterv (ok := (fun k_ => ((P3_ k_ ∨ P4_ k_) ∨ w.heap.size ≤ k_) ∧ some k_ ≠ (.slice Ao29 t376.length co29 : Value).ownBlock)) (by (with_reducible repeat (first | apply Kd.V_alloc | apply Kd.V_drewN | apply Kd.V_drew)); exact HO_4.out) hg hat); have n2_ := Z0.mk (Kd.R_over' (by (with_reducible repeat (first | apply Kd.R_alloc | apply Kd.R_drewN | apply Kd.R_drew)); exact HO378.out) (Kd.N_typed (by (with_reducible repeat (first | apply Kd.N_alloc | apply Kd.N_drewN | apply Kd.N_drew)); exact HO384.out)) (by decide) hg); have n3_ := Z0.mk (hb); have n4_ := Z0.mk (ho); clear HO_3; clear HO_4; clear HO378; clear HB; clear HO384; have HO_3 := n0_; have HO_4 := n1_; have HO378 := n2_; have HB := n3_; have HO387 := n4_; clear n0_ n1_ n2_ n3_ n4_; clear ho hb hg hat; obtain ⟨Ao34, co34, eo34⟩ := Kd.N_slice HO387.out; subst eo34) | ((with_reducible refine gate_callee (f := 49) rfl ?_); refine goesL_ (some 47) rfl rfl Try.func49 (by kernel_rfl) rfl #[.slice Ao34 y385.length co34, .bool true] rfl (by (try simp only [List.map_toArray, List.map_cons, List.map_nil]); first | done | rfl | (simp only [List.length_drop, List.length_take]; rfl)) ?_; (with_reducible refine (culletref16_unlike.calls kj7 _ _ y385 true false _ ?side1 ?side2 A17.out).mono ?_); (case side1 => repeat (first | exact (Kd.N_reads' HO387.out).2.2 | (with_reducible refine Kd.C_alloc ?_ _) | (with_reducible refine Kd.C_drewN ?_ _) | (with_reducible refine Kd.C_drew ?_))); (case side2 => exact (Kd.N_reads' HO387.out).2.1); rintro e w' ⟨rfl, ⟨nd, rfl⟩⟩; refine ⟨_, rfl, ?_⟩) | ((with_reducible refine gate_callee (f := 50) rfl ?_); refine goesL_ (some 49) rfl rfl Try.func50 (by kernel_rfl) rfl #[.slice A3 l3.length c3] rfl (by (try simp only [List.map_toArray, List.map_cons, List.map_nil]); first | done | rfl | (simp only [List.length_drop, List.length_take]; rfl)) ?_; (with_reducible refine (culletref16_longest.calls kj7 _ _ l3 t389 _ ?side1 ?side2 A26.out).mono ?_); (case side1 => repeat (first | exact (Kd.V_reads' HO_3.out).2.2 | (with_reducible refine Kd.C_alloc ?_ _) | (with_reducible refine Kd.C_drewN ?_ _) | (with_reducible refine Kd.C_drew ?_))); (case side2 => exact (Kd.V_reads' HO_3.out).2.1); rintro e w' ⟨rfl, ⟨nd, rfl⟩⟩; refine ⟨_, rfl, ?_⟩))
                  (try simp only [Act.put, List.setIfInBounds_toArray, List.set_cons_zero, List.set_cons_succ])
                  go_cut [56] (fun v56 wc => ∃ (kq : Nat) (x56_26 : Bool), v56 = .bool x56_26 ∧ Z0 (culletref16_Fresh.j1 kq a1 l4 t389 x56_26 = some (r1, r2, r3)) ∧ Z0 (kq ≤ kj7) ∧ Z0 (Kd.V (Kd.slice 5 (Kd.int .u8)) 27 wc w.heap.size (fun k_ => ((P3_ k_ ∨ P4_ k_) ∨ w.heap.size ≤ k_)) (.slice A4 l4.length c4) l4) ∧ Z0 (Below w.heap.size w wc))
                  case first =>
                    have H := HC27.out
                    clear HC27
                    by_cases c35 : a0 = 2
                    · rw [if_pos c35] at H
                      have c35b0 : (a0 == 2) = true := beq_iff_eq.mpr c35
                      have c35b1 : (a0 != 2) = false := bne_eq_false_iff_eq.mpr c35
                      clear c35
                      (first | rw [c35b0] | (simp only [i64_w, i32_w]; rw [c35b0]) | skip)
                      have H' := Z0.mk H
                      clear H
                      go_wp2
                      go_meet
                      case rel => exact ⟨_, (((Int.tmod t389 2) == 1)), (by first | rfl | (simp; done) | (simp [*]; done)), H', ⟨by have := HJ7.out; first | omega | exact Nat.le_refl _⟩, ⟨by (with_reducible repeat (first | apply Kd.V_alloc | apply Kd.V_drewN | apply Kd.V_drew)); exact Kd.V_mono HO_4.out (fun _ hk => hk.1.1)⟩, ⟨by repeat (first | (with_reducible first | exact HB.out | apply bwA | apply bwN | apply bw1) | exact HB.out)⟩⟩
                    · rw [if_neg c35] at H
                      have c35b0 : (a0 == 2) = false := beq_eq_false_iff_ne.mpr c35
                      have c35b1 : (a0 != 2) = true := bne_iff_ne.mpr c35
                      (first | rw [c35b0] | (simp only [i64_w, i32_w]; rw [c35b0]) | skip)
                      have H' := Z0.mk H
                      clear H
                      go_wp2
                      go_meet
                      case rel => exact ⟨_, (false), (by first | rfl | (simp; done) | (simp [*]; done)), H', ⟨by have := HJ7.out; first | omega | exact Nat.le_refl _⟩, ⟨by (with_reducible repeat (first | apply Kd.V_alloc | apply Kd.V_drewN | apply Kd.V_drew)); exact Kd.V_mono HO_4.out (fun _ hk => hk.1.1)⟩, ⟨by repeat (first | (with_reducible first | exact HB.out | apply bwA | apply bwN | apply bw1) | exact HB.out)⟩⟩
                  case rest =>
                    clear HC27
                    try clear c1
                    try clear c2
                    try clear p2
                    try clear c3
                    try clear c4
                    try clear c5
                    try clear p6
                    try clear c7
                    try clear c7b0
                    try clear c7b1
                    try clear c9
                    try clear c9b0
                    try clear c9b1
                    try clear c10
                    try clear c12
                    try clear c12b0
                    try clear c12b1
                    try clear c15
                    try clear c16
                    try clear c18
                    try clear c20
                    try clear c35
                    try clear c35b0
                    try clear c35b1
                    try clear p2
                    try clear p6
                    obtain ⟨kq, x56_26, rfl, HA, HJ26, HO_4, HB⟩ := hcut
                    cases kq with
                    | zero => exact absurd HA.out (by simp [culletref16_Fresh.j1])
                    | succ kj26 =>
                      have H := HA.out
                      clear HA
                      simp only [culletref16_Fresh.j1] at H
                      by_cases c36 : x56_26 = true
                      · subst c36
                        have H1 : (some (0, ([] : List Int), 8)) = some (r1, r2, r3) := by rw [if_pos rfl] at H; exact H
                        clear H
                        have H := H1
                        clear H1
                        simp only [Option.some.injEq, Prod.mk.injEq] at H
                        obtain ⟨rfl, rfl, rfl⟩ := H
                        go_wp2
                        go_ret3
                        exact ⟨_, by first | rfl | (simp [ewN, ewS] <;> rfl) | (simp [*, ewN, ewS] <;> rfl), by first | exact Kd.R_nil _ _ _ _ _ | exact Kd.N_nil _ _ _ _ _ | exact Kd.V_nil _ _ _ _ _ | exact Kd.Q_nil _ _ _ _ _ | exact Kd.S_nil _ _ _ _ _, by repeat (first | (with_reducible first | exact HB.out | apply bwA | apply bwN | apply bw1) | exact HB.out)⟩
                      · replace c36 := Bool.eq_false_iff.mpr c36
                        subst c36
                        have H1 : (culletref16_Fresh.l0 kj26 a1 l4 t389 ([] : List Int) 0) = some (r1, r2, r3) := by rw [if_neg (show ¬ (false = true) by decide)] at H; exact H
                        clear H
                        have H := H1
                        clear H1
                        have H' := Z0.mk H
                        clear H
                        go_wp2
                        go_loopg [16, 17] kj26 (fun kq v16 v17 w' => ∃ (x16_3 : List Int) (x17_3 : Int), v17 = .int .i64 x17_3 ∧ Z0 (culletref16_Fresh.l0 kq a1 l4 t389 x16_3 x17_3 = some (r1, r2, r3)) ∧ Z0 (kq ≤ kj26) ∧ Z0 (Kd.V (Kd.slice 5 (Kd.int .u8)) 27 w' w.heap.size (fun k_ => ((P3_ k_ ∨ P4_ k_) ∨ w.heap.size ≤ k_) ∧ some k_ ≠ (v16 : Value).ownBlock) (.slice A4 l4.length c4) l4) ∧ Z0 (Kd.R (Kd.int .i64) 3 w' w.heap.size (fun k_ => (w.heap.size ≤ k_)) v16 x16_3) ∧ Z0 (Below w.heap.size w w'))
                        case atStart => exact ⟨(([] : List Int)), (0), (by first | rfl | (simp; done) | (simp [*]; done)), H', ⟨Nat.le_refl _⟩, ⟨by (with_reducible repeat (first | apply Kd.V_alloc | apply Kd.V_drewN | apply Kd.V_drew)); exact Kd.V_mono HO_4.out (fun _ hk => ⟨hk, (by simp [Value.ownBlock])⟩)⟩, ⟨by first | exact Kd.R_nil _ _ _ _ _ | exact Kd.N_nil _ _ _ _ _ | exact Kd.V_nil _ _ _ _ _ | exact Kd.Q_nil _ _ _ _ _ | exact Kd.S_nil _ _ _ _ _⟩, ⟨by repeat (first | (with_reducible first | exact HB.out | apply bwA | apply bwN | apply bw1) | exact HB.out)⟩⟩
                        case round =>
                          clear H'
                          try clear c1
                          try clear c2
                          try clear p2
                          try clear c3
                          try clear c4
                          try clear c5
                          try clear p6
                          try clear c7
                          try clear c7b0
                          try clear c7b1
                          try clear c9
                          try clear c9b0
                          try clear c9b1
                          try clear c10
                          try clear c12
                          try clear c12b0
                          try clear c12b1
                          try clear c15
                          try clear c16
                          try clear c18
                          try clear c20
                          try clear c35
                          try clear c35b0
                          try clear c35b1
                          try clear c36
                          try clear p2
                          try clear p6
                          obtain ⟨x16_3, x17_3, rfl, HA, HK3, HO_4, HO_16, HB⟩ := hrel
                          cases gk with
                          | zero => exact absurd HA.out (by simp [culletref16_Fresh.l0])
                          | succ k3 =>
                            have H := HA.out
                            clear HA
                            simp only [culletref16_Fresh.l0] at H
                            by_cases c37 : x17_3 < a1
                            · rw [if_pos c37] at H
                              have c37b0 : decide (x17_3 < a1) = true := decide_eq_true c37
                              clear c37
                              by_cases c38 : 0 ≤ x17_3
                              · rw [if_pos c38] at H
                                have c38b0 : decide (0 ≤ x17_3) = true := decide_eq_true c38
                                clear c38
                                by_cases c39 : x17_3 < (l4.length : Int)
                                · rw [if_pos c39] at H
                                  have c39b0 : decide (x17_3 < (l4.length : Int)) = true := decide_eq_true c39
                                  clear c39
                                  by_cases c40 : ((rd_L2 l4 x17_3).length : Int) > 0
                                  · rw [if_pos c40] at H
                                    have c40b0 : decide (0 < ((rd_L2 l4 x17_3).length : Int)) = true := decide_eq_true c40
                                    have c40b1 : decide (0 < (rd_L2 l4 x17_3).length) = true := decide_eq_true (by omega)
                                    clear c40
                                    by_cases c41 : x16_3.length < 17592186044416
                                    · rw [if_pos c41] at H
                                      have LMc41 := Z0.mk c41
                                      clear c41
                                      obtain ⟨y391, hy391⟩ : ∃ y_ : List Int, y_ = (x16_3 ++ [x17_3]) := ⟨_, rfl⟩
                                      replace H : (culletref16_Fresh.l0 k3 a1 l4 t389 y391 (wrap64 (x17_3 + 1))) = some (r1, r2, r3) := by first | (rw [hy391]; with_reducible exact H) | (have H2_ := (Option.bind_some _ _).symm.trans H; rw [hy391]; with_reducible exact H2_) | (have H2_ := (Option.bind_some _ _).symm.trans H; with_reducible exact H2_) | with_reducible exact H | (rw [hy391]; exact H) | exact H
                                      have Ny391 := Z0.mk hy391
                                      clear hy391
                                      have H' := Z0.mk H
                                      clear H
                                      have p390 : 0 ≤ (x17_3 : Int) := of_decide_eq_true (by first | (with_reducible assumption) | assumption)
                                      have q390 : x17_3 < (l4.length : Int) := of_decide_eq_true (by first | (with_reducible assumption) | assumption)
                                      obtain ⟨ad390, A390_0, c390_0, e390, hx390_0, hl390_0, hi390_0⟩ := at_L2 (Kd.V_reads' HO_4.out).2.2 x17_3 p390 q390
                                      cases e390
                                      obtain ⟨ce390, hce390, hMe390, hcc390⟩ := Kd.V_get HO_4.out [] x17_3 p390 (by first | exact q390 | exact of_decide_eq_true (by first | (with_reducible assumption) | assumption) | (have e_ := (Kd.V_reads' HO_4.out).1; omega))
                                      obtain ⟨ua390_0, uc390_0, rfl, ul390_0, ge390_0⟩ := Kd.FK_slice_open hMe390
                                      have hv390_0 := hcc390 0 _ rfl
                                      rw [Nat.add_zero, show ((Kd.slice 5 (Kd.int .u8))).sz = 1 from rfl, Nat.mul_one] at hv390_0
                                      replace hv390_0 := Option.some.inj (hv390_0.symm.trans hx390_0)
                                      injection hv390_0 with hva_ hvn_ hvc_
                                      rw [hva_] at ge390_0
                                      rw [hvc_] at ul390_0
                                      have HL390_0 := Z0.mk (show Kd.V (Kd.int .u8) 5 _ w.heap.size _ _ (rd_L2 l4 x17_3) from Kd.V_mk ul390_0 ge390_0)
                                      clear hva_ hvn_ hvc_ ge390_0 ul390_0
                                      clear hcc390 hce390
                                      have HR390_0 := Z0.mk hi390_0
                                      have HC390_0 := Z0.mk hl390_0
                                      clear hi390_0 hl390_0
                                      replace p390 := eq_true p390
                                      replace q390 := eq_true q390
                                      go_wp2_with (first | ((with_reducible refine gate_builtin (b := .append) (xs := #[.tmp 68, .tmp 70]) rfl ?_); (try (refine gate_guard (by rfl) ?_; dsimp only)); at_builtin; refine Kd.R_append (Kd.int .i64) (w0 := w) w.heap.size rfl (.tmp 68) (.tmp 70) 49 3 (.int .i64 0) 8 rfl Try.underlying49 info3 rfl (by decide) (by omega) u16 x16_3 x17_3 [.int .i64 x17_3] (fun k_ => (w.heap.size ≤ k_)) (fun _ => False) rfl rfl ?aP (fun _ hk => hk.elim) ?aF ?aO ?aB ?aS ?aL ?_; (case aP => exact rfl); (case aB => exact (by repeat (first | (with_reducible first | exact HB.out | apply bwA | apply bwN | apply bw1) | exact HB.out))); (case aF => exact (fun k_ hk => (Nat.le_trans (bwZ (by repeat (first | (with_reducible first | exact HB.out | apply bwA | apply bwN | apply bw1) | exact HB.out))) hk))); (case aO => exact (by (with_reducible repeat (first | apply Kd.R_alloc | apply Kd.R_drewN | apply Kd.R_drew)); exact HO_16.out)); (case aS => exact (bwZ (by repeat (first | (with_reducible first | exact HB.out | apply bwA | apply bwN | apply bw1) | exact HB.out)))); (case aL => have := LMc41.out; omega); intro v392 w42 ho hb hg hat; rw [← Ny391.out] at ho; have n0_ := Z0.mk (Kd.V_afterv (ok := (fun k_ => ((P3_ k_ ∨ P4_ k_) ∨ w.heap.size ≤ k_))) (by (with_reducible repeat (first | apply Kd.V_alloc | apply Kd.V_drewN | apply Kd.V_drew)); exact HO_4.out) hg hat); have n1_ := Z0.mk (Kd.V_afterv (ok := (fun k_ => ((P3_ k_ ∨ P4_ k_) ∨ w.heap.size ≤ k_))) (by (with_reducible repeat (first | apply Kd.V_alloc | apply Kd.V_drewN | apply Kd.V_drew)); exact HL390_0.out) hg hat); have n2_ := Z0.mk (hb); have n3_ := Z0.mk (ho); clear HO_4; clear HL390_0; clear HB; clear HO_16; have HO_4 := n0_; have HL390_0 := n1_; have HB := n2_; have HO393 := n3_; clear n0_ n1_ n2_ n3_; clear ho hb hg hat))
                                      go_roundg k3
                                      case measure => have := HJ7.out; have := HJ26.out; have := HK3.out; omega
                                      case rel => exact ⟨(y391), (wrap64 (x17_3 + 1)), (by first | rfl | (simp; done) | (simp [*]; done)), H', ⟨by have := HJ7.out; have := HJ26.out; have := HK3.out; omega⟩, ⟨by (with_reducible repeat (first | apply Kd.V_alloc | apply Kd.V_drewN | apply Kd.V_drew)); exact HO_4.out⟩, ⟨by (with_reducible repeat (first | apply Kd.R_alloc | apply Kd.R_drewN | apply Kd.R_drew)); exact HO393.out⟩, ⟨by repeat (first | (with_reducible first | exact HB.out | apply bwA | apply bwN | apply bw1) | exact HB.out)⟩⟩
                                    · rw [if_neg c41] at H
                                      exact absurd H (by simp)
                                  · rw [if_neg c40] at H
                                    have c40b0 : decide (0 < ((rd_L2 l4 x17_3).length : Int)) = false := decide_eq_false c40
                                    have c40b1 : decide (0 < (rd_L2 l4 x17_3).length) = false := decide_eq_false (by omega)
                                    clear c40
                                    have H' := Z0.mk H
                                    clear H
                                    have p390 : 0 ≤ (x17_3 : Int) := of_decide_eq_true (by first | (with_reducible assumption) | assumption)
                                    have q390 : x17_3 < (l4.length : Int) := of_decide_eq_true (by first | (with_reducible assumption) | assumption)
                                    obtain ⟨ad390, A390_0, c390_0, e390, hx390_0, hl390_0, hi390_0⟩ := at_L2 (Kd.V_reads' HO_4.out).2.2 x17_3 p390 q390
                                    cases e390
                                    obtain ⟨ce390, hce390, hMe390, hcc390⟩ := Kd.V_get HO_4.out [] x17_3 p390 (by first | exact q390 | exact of_decide_eq_true (by first | (with_reducible assumption) | assumption) | (have e_ := (Kd.V_reads' HO_4.out).1; omega))
                                    obtain ⟨ua390_0, uc390_0, rfl, ul390_0, ge390_0⟩ := Kd.FK_slice_open hMe390
                                    have hv390_0 := hcc390 0 _ rfl
                                    rw [Nat.add_zero, show ((Kd.slice 5 (Kd.int .u8))).sz = 1 from rfl, Nat.mul_one] at hv390_0
                                    replace hv390_0 := Option.some.inj (hv390_0.symm.trans hx390_0)
                                    injection hv390_0 with hva_ hvn_ hvc_
                                    rw [hva_] at ge390_0
                                    rw [hvc_] at ul390_0
                                    have HL390_0 := Z0.mk (show Kd.V (Kd.int .u8) 5 _ w.heap.size _ _ (rd_L2 l4 x17_3) from Kd.V_mk ul390_0 ge390_0)
                                    clear hva_ hvn_ hvc_ ge390_0 ul390_0
                                    clear hcc390 hce390
                                    have HR390_0 := Z0.mk hi390_0
                                    have HC390_0 := Z0.mk hl390_0
                                    clear hi390_0 hl390_0
                                    replace p390 := eq_true p390
                                    replace q390 := eq_true q390
                                    go_wp2
                                    go_roundg k3
                                    case measure => have := HJ7.out; have := HJ26.out; have := HK3.out; omega
                                    case rel => exact ⟨(x16_3), (wrap64 (x17_3 + 1)), (by first | rfl | (simp; done) | (simp [*]; done)), H', ⟨by have := HJ7.out; have := HJ26.out; have := HK3.out; omega⟩, ⟨by (with_reducible repeat (first | apply Kd.V_alloc | apply Kd.V_drewN | apply Kd.V_drew)); exact HO_4.out⟩, ⟨by (with_reducible repeat (first | apply Kd.R_alloc | apply Kd.R_drewN | apply Kd.R_drew)); exact HO_16.out⟩, ⟨by repeat (first | (with_reducible first | exact HB.out | apply bwA | apply bwN | apply bw1) | exact HB.out)⟩⟩
                                · rw [if_neg c39] at H
                                  exact absurd H (by simp)
                              · rw [if_neg c38] at H
                                exact absurd H (by simp)
                            · rw [if_neg c37] at H
                              have c37b0 : decide (x17_3 < a1) = false := decide_eq_false c37
                              clear c37
                              simp only [Option.some.injEq, Prod.mk.injEq] at H
                              obtain ⟨rfl, rfl, rfl⟩ := H
                              go_wp2
                              go_ret3
                              exact ⟨_, by first | rfl | (simp [ewN, ewS] <;> rfl) | (simp [*, ewN, ewS] <;> rfl), by (with_reducible repeat (first | apply Kd.R_alloc | apply Kd.R_drewN | apply Kd.R_drew)); exact HO_16.out, by repeat (first | (with_reducible first | exact HB.out | apply bwA | apply bwN | apply bw1) | exact HB.out)⟩
              · rw [if_neg c16] at H
                exact absurd H (by simp)
            · rw [if_neg c15] at H
              exact absurd H (by simp)
  · rw [if_neg c7] at H
    have c7b0 : (t375 == 0) = false := beq_eq_false_iff_ne.mpr c7
    have c7b1 : (t375 != 0) = true := bne_iff_ne.mpr c7
    simp only [Option.some.injEq, Prod.mk.injEq] at H
    obtain ⟨rfl, rfl, rfl⟩ := H
    go_enter Try.func46, Try.ntmps46
    go_wp2_with (first | ((with_reducible refine gate_callee (f := 20) rfl ?_); refine goesL_ (some 21) rfl rfl Try.func20 (by kernel_rfl) rfl #[.int .i64 a0, .int .i64 a1, .int .i64 a2] rfl (by (try simp only [List.map_toArray, List.map_cons, List.map_nil]); first | done | rfl | (simp only [List.length_drop, List.length_take]; rfl)) ?_; (with_reducible refine (culletref16_Params.calls k a0 a1 a2 t375 _ A6.out).mono ?_); rintro e w' ⟨rfl, ⟨nd, rfl⟩⟩; refine ⟨_, rfl, ?_⟩))
    go_ret3
    exact ⟨_, by first | rfl | (simp [ewN, ewS] <;> rfl) | (simp [*, ewN, ewS] <;> rfl), by first | exact Kd.R_nil _ _ _ _ _ | exact Kd.N_nil _ _ _ _ _ | exact Kd.V_nil _ _ _ _ _ | exact Kd.Q_nil _ _ _ _ _ | exact Kd.S_nil _ _ _ _ _, by repeat (first | (with_reducible first | exact HB.out | apply bwA | apply bwN | apply bw1) | exact HB.out)⟩

end Go.Proofs.Ytcbjabnnokjnpaa.PA
