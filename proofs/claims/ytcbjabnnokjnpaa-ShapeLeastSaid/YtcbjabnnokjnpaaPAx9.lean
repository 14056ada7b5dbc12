-- Written by a program of this session (wip/drive.py) for this seat.
import Derived.Test.YtcbjabnnokjnpaaPAx0
import Derived.Test.YtcbjabnnokjnpaaPAx2
import Derived.Test.YtcbjabnnokjnpaaPAx7
namespace Go.Proofs.Ytcbjabnnokjnpaa.PA
open Go.RowKit Go.Proofs.YtcbjabnnokjnpaaW.PrintWords Go.Proofs.YtcbjabnnokjnpaaW.PrintLast Go.Proofs.YtcbjabnnokjnpaaW.PrintMore
attribute [local go_sem] max2_int min2_int max_two min_two max_three min_three max_four min_four   -- for this text's walks alone
set_option linter.unusedVariables false
set_option linter.unusedSimpArgs false

/-! ### culletlaw16_ShapeLimits: function 4 -/
mutual
def culletlaw16_ShapeLimits.j0 : Nat → Int → Int → Int → Int → Bool → Option (Bool)
  | 0, _, _, _, _, _ => none
  | k + 1, x0, x1, x2, x7, x19 => if x19 = true then (some (x7 == 2)) else (if x1 < 1 then (culletlaw16_ShapeLimits.j1 k x0 x1 x2 x7 true) else (culletlaw16_ShapeLimits.j1 k x0 x1 x2 x7 (decide (x2 < 1))))
def culletlaw16_ShapeLimits.j1 : Nat → Int → Int → Int → Int → Bool → Option (Bool)
  | 0, _, _, _, _, _ => none
  | k + 1, x0, x1, x2, x7, x27 => if x27 = true then (some (x7 == 4)) else (if x7 = 0 then (if x1 > 1 then ((shape_Params.f k x0 (wrap64 (x1 - 1)) x2).bind fun t142 => (if t142 = 0 then (if x2 > 1 then ((shape_Params.f k x0 x1 (wrap64 (x2 - 1))).bind fun t143 => (if t143 = 0 then (if (wrap64 (x1 + x2)) ≤ 256 then (some true) else (if x0 = 2 then (some (decide ((wrap64 (x1 + x2)) ≤ 65536))) else (some false))) else (some false))) else (if (wrap64 (x1 + x2)) ≤ 256 then (some true) else (if x0 = 2 then (some (decide ((wrap64 (x1 + x2)) ≤ 65536))) else (some false)))) else (some false))) else (if x2 > 1 then ((shape_Params.f k x0 x1 (wrap64 (x2 - 1))).bind fun t144 => (if t144 = 0 then (if (wrap64 (x1 + x2)) ≤ 256 then (some true) else (if x0 = 2 then (some (decide ((wrap64 (x1 + x2)) ≤ 65536))) else (some false))) else (some false))) else (if (wrap64 (x1 + x2)) ≤ 256 then (some true) else (if x0 = 2 then (some (decide ((wrap64 (x1 + x2)) ≤ 65536))) else (some false))))) else (if x7 = 4 then (if x1 > 1048576 then (culletlaw16_ShapeLimits.j2 k x0 x1 x2 true) else (culletlaw16_ShapeLimits.j2 k x0 x1 x2 (decide (x2 > 1048576)))) else (some false)))
def culletlaw16_ShapeLimits.j2 : Nat → Int → Int → Int → Bool → Option (Bool)
  | 0, _, _, _, _ => none
  | k + 1, x0, x1, x2, x75 => if x75 = true then (some true) else (if x0 = 2 then (if (wrap64 (x1 + x2)) > 65536 then (some true) else (if (Go.bits .and .i64 x2 (wrap64 (x2 - 1))) = 0 then (some false) else (some (decide ((wrap64 (x1 + (wrap64 (2 * x2)))) > 65536))))) else (some (decide ((wrap64 (x1 + x2)) > 256))))
end
def culletlaw16_ShapeLimits.f (k : Nat) (a0 : Int) (a1 : Int) (a2 : Int) : Option (Bool) := (culletlaw16_awake.f k).bind fun t140 => (if t140 = true then ((shape_Params.f k a0 a1 a2).bind fun t141 => (if a0 < 0 then (culletlaw16_ShapeLimits.j0 k a0 a1 a2 t141 true) else (culletlaw16_ShapeLimits.j0 k a0 a1 a2 t141 (decide (a0 > 2))))) else (some false))
theorem culletlaw16_ShapeLimits.mono_l : ∀ k, (∀ y0 y1 y2 y3 y4, LeO (culletlaw16_ShapeLimits.j0 k y0 y1 y2 y3 y4) (culletlaw16_ShapeLimits.j0 (k + 1) y0 y1 y2 y3 y4)) ∧ (∀ y0 y1 y2 y3 y4, LeO (culletlaw16_ShapeLimits.j1 k y0 y1 y2 y3 y4) (culletlaw16_ShapeLimits.j1 (k + 1) y0 y1 y2 y3 y4)) ∧ (∀ y0 y1 y2 y3, LeO (culletlaw16_ShapeLimits.j2 k y0 y1 y2 y3) (culletlaw16_ShapeLimits.j2 (k + 1) y0 y1 y2 y3))
  | 0 => ⟨fun _ _ _ _ _ r h => by simp [culletlaw16_ShapeLimits.j0] at h, fun _ _ _ _ _ r h => by simp [culletlaw16_ShapeLimits.j1] at h, fun _ _ _ _ r h => by simp [culletlaw16_ShapeLimits.j2] at h⟩
  | k + 1 => by
    obtain ⟨ih0, ih1, ih2⟩ := culletlaw16_ShapeLimits.mono_l k
    refine ⟨?_, ?_, ?_⟩
    · intro y0 y1 y2 y3 y4
      unfold culletlaw16_ShapeLimits.j0
      repeat' first
      | (with_reducible exact ih0 _ _ _ _ _)
      | (with_reducible exact ih1 _ _ _ _ _)
      | (with_reducible exact ih2 _ _ _ _)
      | (with_reducible exact culletlaw16_awake.mono _)
      | (with_reducible exact shape_Params.mono _ _ _ _)
      | (with_reducible exact LeO.refl _)
      | (with_reducible exact LeO.none _)
      | (with_reducible refine LeO.ite ?_ ?_)
      | (with_reducible refine LeO.bind ?_ (fun _ => ?_))
      | exact ih0 _ _ _ _ _
      | exact ih1 _ _ _ _ _
      | exact ih2 _ _ _ _
      | exact culletlaw16_awake.mono _
      | exact shape_Params.mono _ _ _ _
      | exact LeO.none _
      | refine LeO.ite ?_ ?_
      | refine LeO.bind ?_ (fun _ => ?_)
    · intro y0 y1 y2 y3 y4
      unfold culletlaw16_ShapeLimits.j1
      repeat' first
      | (with_reducible exact ih0 _ _ _ _ _)
      | (with_reducible exact ih1 _ _ _ _ _)
      | (with_reducible exact ih2 _ _ _ _)
      | (with_reducible exact culletlaw16_awake.mono _)
      | (with_reducible exact shape_Params.mono _ _ _ _)
      | (with_reducible exact LeO.refl _)
      | (with_reducible exact LeO.none _)
      | (with_reducible refine LeO.ite ?_ ?_)
      | (with_reducible refine LeO.bind ?_ (fun _ => ?_))
      | exact ih0 _ _ _ _ _
      | exact ih1 _ _ _ _ _
      | exact ih2 _ _ _ _
      | exact culletlaw16_awake.mono _
      | exact shape_Params.mono _ _ _ _
      | exact LeO.none _
      | refine LeO.ite ?_ ?_
      | refine LeO.bind ?_ (fun _ => ?_)
    · intro y0 y1 y2 y3
      unfold culletlaw16_ShapeLimits.j2
      repeat' first
      | (with_reducible exact ih0 _ _ _ _ _)
      | (with_reducible exact ih1 _ _ _ _ _)
      | (with_reducible exact ih2 _ _ _ _)
      | (with_reducible exact culletlaw16_awake.mono _)
      | (with_reducible exact shape_Params.mono _ _ _ _)
      | (with_reducible exact LeO.refl _)
      | (with_reducible exact LeO.none _)
      | (with_reducible refine LeO.ite ?_ ?_)
      | (with_reducible refine LeO.bind ?_ (fun _ => ?_))
      | exact ih0 _ _ _ _ _
      | exact ih1 _ _ _ _ _
      | exact ih2 _ _ _ _
      | exact culletlaw16_awake.mono _
      | exact shape_Params.mono _ _ _ _
      | exact LeO.none _
      | refine LeO.ite ?_ ?_
      | refine LeO.bind ?_ (fun _ => ?_)
theorem culletlaw16_ShapeLimits.mono : ∀ a0 a1 a2 k, LeO (culletlaw16_ShapeLimits.f k a0 a1 a2) (culletlaw16_ShapeLimits.f (k + 1) a0 a1 a2) := by
  intro a0 a1 a2 k
  obtain ⟨ih0, ih1, ih2⟩ := culletlaw16_ShapeLimits.mono_l k
  unfold culletlaw16_ShapeLimits.f
  repeat' first
      | (with_reducible exact ih0 _ _ _ _ _)
      | (with_reducible exact ih1 _ _ _ _ _)
      | (with_reducible exact ih2 _ _ _ _)
      | (with_reducible exact culletlaw16_awake.mono _)
      | (with_reducible exact shape_Params.mono _ _ _ _)
      | (with_reducible exact LeO.refl _)
      | (with_reducible exact LeO.none _)
      | (with_reducible refine LeO.ite ?_ ?_)
      | (with_reducible refine LeO.bind ?_ (fun _ => ?_))
      | exact ih0 _ _ _ _ _
      | exact ih1 _ _ _ _ _
      | exact ih2 _ _ _ _
      | exact culletlaw16_awake.mono _
      | exact shape_Params.mono _ _ _ _
      | exact LeO.none _
      | refine LeO.ite ?_ ?_
      | refine LeO.bind ?_ (fun _ => ?_)
set_option maxHeartbeats 8000000 in
set_option maxRecDepth 100000 in
theorem culletlaw16_ShapeLimits.calls (k : Nat) (a0 : Int) (a1 : Int) (a2 : Int) (r : Bool) (w : World) (h : culletlaw16_ShapeLimits.f k a0 a1 a2 = some r) :
    Calls Try.prog 4 #[.int .i64 a0, .int .i64 a1, .int .i64 a2] w fun e w' => e = .returned (.bool r) ∧ Below w.heap.size w w' := by
  have HB := Aside0.mk (Below.refl w.heap.size w)
  have H : ((culletlaw16_awake.f k).bind fun t140 => (if t140 = true then ((shape_Params.f k a0 a1 a2).bind fun t141 => (if a0 < 0 then (culletlaw16_ShapeLimits.j0 k a0 a1 a2 t141 true) else (culletlaw16_ShapeLimits.j0 k a0 a1 a2 t141 (decide (a0 > 2))))) else (some false))) = some r := h
  clear h
  replace H := Option.bind_eq_some_iff.mp H
  obtain ⟨t140, A40, H⟩ := H
  replace H : (if t140 = true then ((shape_Params.f k a0 a1 a2).bind fun t141 => (if a0 < 0 then (culletlaw16_ShapeLimits.j0 k a0 a1 a2 t141 true) else (culletlaw16_ShapeLimits.j0 k a0 a1 a2 t141 (decide (a0 > 2))))) else (some false)) = some r := H
  have A4 := Aside0.mk A40
  clear A40
  by_cases c5 : t140 = true
  · subst c5
    have H1 : ((shape_Params.f k a0 a1 a2).bind fun t141 => (if a0 < 0 then (culletlaw16_ShapeLimits.j0 k a0 a1 a2 t141 true) else (culletlaw16_ShapeLimits.j0 k a0 a1 a2 t141 (decide (a0 > 2))))) = some r := by rw [if_pos rfl] at H; exact H
    clear H
    have H := H1
    clear H1
    replace H := Option.bind_eq_some_iff.mp H
    obtain ⟨t141, A60, H⟩ := H
    replace H : (if a0 < 0 then (culletlaw16_ShapeLimits.j0 k a0 a1 a2 t141 true) else (culletlaw16_ShapeLimits.j0 k a0 a1 a2 t141 (decide (a0 > 2)))) = some r := H
    have A6 := Aside0.mk A60
    clear A60
    have HC7 := Aside0.mk H
    clear H
    go_enter Try.func4, Try.ntmps4
    go_upto_region 4 with (first | ((with_reducible refine gate_callee (f := 13) rfl ?_); refine goesL_ (some 8) rfl rfl Try.func13 (by kernel_rfl) rfl #[] rfl (by (try simp only [List.map_toArray, List.map_cons, List.map_nil]); first | done | rfl | (simp only [List.length_drop, List.length_take]; rfl)) ?_; (with_reducible refine (culletlaw16_awake.calls k  true _ A4.out).mono ?_); rintro e w8 ⟨rfl, hb⟩; refine ⟨_, rfl, ?_⟩; have n0_ := Aside0.mk (below_step (by repeat (first | (with_reducible first | exact HB.out | apply below_alloc | apply pw_below_drewN | apply below_drew1) | exact HB.out)) hb); clear HB; have HB := n0_; clear n0_; (try clear hb); (try clear hb2); (try clear hk); (try clear hi)) | ((with_reducible refine gate_callee (f := 14) rfl ?_); refine goesL_ (some 13) rfl rfl Try.func14 (by kernel_rfl) rfl #[.int .i64 a0, .int .i64 a1, .int .i64 a2] rfl (by (try simp only [List.map_toArray, List.map_cons, List.map_nil]); first | done | rfl | (simp only [List.length_drop, List.length_take]; rfl)) ?_; (with_reducible refine (shape_Params.calls k a0 a1 a2 t141 _ A6.out).mono ?_); rintro e w' ⟨rfl, ⟨nd, rfl⟩⟩; refine ⟨_, rfl, ?_⟩))
    (try simp only [Act.put, List.setIfInBounds_toArray, List.set_cons_zero, List.set_cons_succ])
    go_cut [19] (fun v19 wc => ∃ (kq : Nat) (x19_6 : Bool), v19 = .bool x19_6 ∧ Aside0 (culletlaw16_ShapeLimits.j0 kq a0 a1 a2 t141 x19_6 = some r) ∧ Aside0 (kq ≤ k) ∧ Aside0 (Below w.heap.size w wc))
    case first =>
      have H := HC7.out
      clear HC7
      by_cases c9 : a0 < 0
      · rw [if_pos c9] at H
        have c9b0 : decide (a0 < 0) = true := decide_eq_true c9
        clear c9
        (first | rw [c9b0] | (simp only [i64_w, i32_w]; rw [c9b0]) | skip)
        have H' := Aside0.mk H
        clear H
        go_wp2
        go_meet
        case rel => exact ⟨_, (true), (by first | rfl | (simp; done) | (simp [*]; done)), H', ⟨by first | omega | exact Nat.le_refl _⟩, ⟨by repeat (first | (with_reducible first | exact HB.out | apply below_alloc | apply pw_below_drewN | apply below_drew1) | exact HB.out)⟩⟩
      · rw [if_neg c9] at H
        have c9b0 : decide (a0 < 0) = false := decide_eq_false c9
        clear c9
        (first | rw [c9b0] | (simp only [i64_w, i32_w]; rw [c9b0]) | skip)
        have H' := Aside0.mk H
        clear H
        go_wp2
        go_meet
        case rel => exact ⟨_, (decide (a0 > 2)), (by first | rfl | (simp; done) | (simp [*]; done)), H', ⟨by first | omega | exact Nat.le_refl _⟩, ⟨by repeat (first | (with_reducible first | exact HB.out | apply below_alloc | apply pw_below_drewN | apply below_drew1) | exact HB.out)⟩⟩
    case rest =>
      clear HC7
      try clear c1
      try clear p2
      try clear c4
      try clear c5
      try clear c9
      try clear c9b0
      obtain ⟨kq, x19_6, rfl, HA, HJ6, HB⟩ := hcut
      cases kq with
      | zero => exact absurd HA.out (by simp [culletlaw16_ShapeLimits.j0])
      | succ kj6 =>
        have H := HA.out
        clear HA
        simp only [culletlaw16_ShapeLimits.j0] at H
        by_cases c10 : x19_6 = true
        · subst c10
          have H1 : (some (t141 == 2)) = some r := by rw [if_pos rfl] at H; exact H
          clear H
          have H := H1
          clear H1
          obtain rfl := Option.some.inj H
          go_wp2
          go_ret
          exact ⟨by first | rfl | (simp [errW_none, errW_some] <;> rfl) | (simp [*, errW_none, errW_some] <;> rfl), by repeat (first | (with_reducible first | exact HB.out | apply below_alloc | apply pw_below_drewN | apply below_drew1) | exact HB.out)⟩
        · replace c10 := Bool.eq_false_iff.mpr c10
          subst c10
          have H1 : (if a1 < 1 then (culletlaw16_ShapeLimits.j1 kj6 a0 a1 a2 t141 true) else (culletlaw16_ShapeLimits.j1 kj6 a0 a1 a2 t141 (decide (a2 < 1)))) = some r := by rw [if_neg (show ¬ (false = true) by decide)] at H; exact H
          clear H
          have H := H1
          clear H1
          have HC11 := Aside0.mk H
          clear H
          go_upto_region 6 with (fail)
          go_cut [27] (fun v27 wc => ∃ (kq : Nat) (x27_10 : Bool), v27 = .bool x27_10 ∧ Aside0 (culletlaw16_ShapeLimits.j1 kq a0 a1 a2 t141 x27_10 = some r) ∧ Aside0 (kq ≤ kj6) ∧ Aside0 (Below w.heap.size w wc))
          case first =>
            have H := HC11.out
            clear HC11
            by_cases c12 : a1 < 1
            · rw [if_pos c12] at H
              have c12b0 : decide (a1 < 1) = true := decide_eq_true c12
              clear c12
              (first | rw [c12b0] | (simp only [i64_w, i32_w]; rw [c12b0]) | skip)
              have H' := Aside0.mk H
              clear H
              go_wp2
              go_meet
              case rel => exact ⟨_, (true), (by first | rfl | (simp; done) | (simp [*]; done)), H', ⟨by have := HJ6.out; first | omega | exact Nat.le_refl _⟩, ⟨by repeat (first | (with_reducible first | exact HB.out | apply below_alloc | apply pw_below_drewN | apply below_drew1) | exact HB.out)⟩⟩
            · rw [if_neg c12] at H
              have c12b0 : decide (a1 < 1) = false := decide_eq_false c12
              clear c12
              (first | rw [c12b0] | (simp only [i64_w, i32_w]; rw [c12b0]) | skip)
              have H' := Aside0.mk H
              clear H
              go_wp2
              go_meet
              case rel => exact ⟨_, (decide (a2 < 1)), (by first | rfl | (simp; done) | (simp [*]; done)), H', ⟨by have := HJ6.out; first | omega | exact Nat.le_refl _⟩, ⟨by repeat (first | (with_reducible first | exact HB.out | apply below_alloc | apply pw_below_drewN | apply below_drew1) | exact HB.out)⟩⟩
          case rest =>
            clear HC11
            try clear c1
            try clear p2
            try clear c4
            try clear c5
            try clear c9
            try clear c9b0
            try clear c10
            try clear c12
            try clear c12b0
            try clear p2
            obtain ⟨kq, x27_10, rfl, HA, HJ10, HB⟩ := hcut
            cases kq with
            | zero => exact absurd HA.out (by simp [culletlaw16_ShapeLimits.j1])
            | succ kj10 =>
              have H := HA.out
              clear HA
              simp only [culletlaw16_ShapeLimits.j1] at H
              by_cases c13 : x27_10 = true
              · subst c13
                have H1 : (some (t141 == 4)) = some r := by rw [if_pos rfl] at H; exact H
                clear H
                have H := H1
                clear H1
                obtain rfl := Option.some.inj H
                go_wp2
                go_ret
                exact ⟨by first | rfl | (simp [errW_none, errW_some] <;> rfl) | (simp [*, errW_none, errW_some] <;> rfl), by repeat (first | (with_reducible first | exact HB.out | apply below_alloc | apply pw_below_drewN | apply below_drew1) | exact HB.out)⟩
              · replace c13 := Bool.eq_false_iff.mpr c13
                subst c13
                have H1 : (if t141 = 0 then (if a1 > 1 then ((shape_Params.f kj10 a0 (wrap64 (a1 - 1)) a2).bind fun t142 => (if t142 = 0 then (if a2 > 1 then ((shape_Params.f kj10 a0 a1 (wrap64 (a2 - 1))).bind fun t143 => (if t143 = 0 then (if (wrap64 (a1 + a2)) ≤ 256 then (some true) else (if a0 = 2 then (some (decide ((wrap64 (a1 + a2)) ≤ 65536))) else (some false))) else (some false))) else (if (wrap64 (a1 + a2)) ≤ 256 then (some true) else (if a0 = 2 then (some (decide ((wrap64 (a1 + a2)) ≤ 65536))) else (some false)))) else (some false))) else (if a2 > 1 then ((shape_Params.f kj10 a0 a1 (wrap64 (a2 - 1))).bind fun t144 => (if t144 = 0 then (if (wrap64 (a1 + a2)) ≤ 256 then (some true) else (if a0 = 2 then (some (decide ((wrap64 (a1 + a2)) ≤ 65536))) else (some false))) else (some false))) else (if (wrap64 (a1 + a2)) ≤ 256 then (some true) else (if a0 = 2 then (some (decide ((wrap64 (a1 + a2)) ≤ 65536))) else (some false))))) else (if t141 = 4 then (if a1 > 1048576 then (culletlaw16_ShapeLimits.j2 kj10 a0 a1 a2 true) else (culletlaw16_ShapeLimits.j2 kj10 a0 a1 a2 (decide (a2 > 1048576)))) else (some false))) = some r := by rw [if_neg (show ¬ (false = true) by decide)] at H; exact H
                clear H
                have H := H1
                clear H1
                by_cases c14 : t141 = 0
                · rw [if_pos c14] at H
                  have c14b0 : (t141 == 0) = true := beq_iff_eq.mpr c14
                  have c14b1 : (t141 != 0) = false := bne_eq_false_iff_eq.mpr c14
                  clear c14
                  by_cases c15 : a1 > 1
                  · rw [if_pos c15] at H
                    have c15b0 : decide (1 < a1) = true := decide_eq_true c15
                    clear c15
                    replace H := Option.bind_eq_some_iff.mp H
                    obtain ⟨t142, A160, H⟩ := H
                    replace H : (if t142 = 0 then (if a2 > 1 then ((shape_Params.f kj10 a0 a1 (wrap64 (a2 - 1))).bind fun t143 => (if t143 = 0 then (if (wrap64 (a1 + a2)) ≤ 256 then (some true) else (if a0 = 2 then (some (decide ((wrap64 (a1 + a2)) ≤ 65536))) else (some false))) else (some false))) else (if (wrap64 (a1 + a2)) ≤ 256 then (some true) else (if a0 = 2 then (some (decide ((wrap64 (a1 + a2)) ≤ 65536))) else (some false)))) else (some false)) = some r := H
                    have A16 := Aside0.mk A160
                    clear A160
                    by_cases c17 : t142 = 0
                    · rw [if_pos c17] at H
                      have c17b0 : (t142 == 0) = true := beq_iff_eq.mpr c17
                      have c17b1 : (t142 != 0) = false := bne_eq_false_iff_eq.mpr c17
                      clear c17
                      by_cases c18 : a2 > 1
                      · rw [if_pos c18] at H
                        have c18b0 : decide (1 < a2) = true := decide_eq_true c18
                        clear c18
                        replace H := Option.bind_eq_some_iff.mp H
                        obtain ⟨t143, A190, H⟩ := H
                        replace H : (if t143 = 0 then (if (wrap64 (a1 + a2)) ≤ 256 then (some true) else (if a0 = 2 then (some (decide ((wrap64 (a1 + a2)) ≤ 65536))) else (some false))) else (some false)) = some r := H
                        have A19 := Aside0.mk A190
                        clear A190
                        by_cases c20 : t143 = 0
                        · rw [if_pos c20] at H
                          have c20b0 : (t143 == 0) = true := beq_iff_eq.mpr c20
                          have c20b1 : (t143 != 0) = false := bne_eq_false_iff_eq.mpr c20
                          clear c20
                          by_cases c21 : (wrap64 (a1 + a2)) ≤ 256
                          · rw [if_pos c21] at H
                            have c21b0 : decide ((wrap64 (a1 + a2)) ≤ 256) = true := decide_eq_true c21
                            clear c21
                            obtain rfl := Option.some.inj H
                            go_wp2_with (first | (go_at_call 14; (with_reducible refine (shape_Params.calls kj10 a0 (wrap64 (a1 - 1)) a2 t142 _ A16.out).mono ?_); rintro e w' ⟨rfl, ⟨nd, rfl⟩⟩) | (go_at_call 14; (with_reducible refine (shape_Params.calls kj10 a0 a1 (wrap64 (a2 - 1)) t143 _ A19.out).mono ?_); rintro e w' ⟨rfl, ⟨nd, rfl⟩⟩))
                            go_ret
                            exact ⟨by first | rfl | (simp [errW_none, errW_some] <;> rfl) | (simp [*, errW_none, errW_some] <;> rfl), by repeat (first | (with_reducible first | exact HB.out | apply below_alloc | apply pw_below_drewN | apply below_drew1) | exact HB.out)⟩
                          · rw [if_neg c21] at H
                            have c21b0 : decide ((wrap64 (a1 + a2)) ≤ 256) = false := decide_eq_false c21
                            clear c21
                            by_cases c22 : a0 = 2
                            · rw [if_pos c22] at H
                              have c22b0 : (a0 == 2) = true := beq_iff_eq.mpr c22
                              have c22b1 : (a0 != 2) = false := bne_eq_false_iff_eq.mpr c22
                              clear c22
                              obtain rfl := Option.some.inj H
                              go_wp2_with (first | (go_at_call 14; (with_reducible refine (shape_Params.calls kj10 a0 (wrap64 (a1 - 1)) a2 t142 _ A16.out).mono ?_); rintro e w' ⟨rfl, ⟨nd, rfl⟩⟩) | (go_at_call 14; (with_reducible refine (shape_Params.calls kj10 a0 a1 (wrap64 (a2 - 1)) t143 _ A19.out).mono ?_); rintro e w' ⟨rfl, ⟨nd, rfl⟩⟩))
                              go_ret
                              exact ⟨by first | rfl | (simp [errW_none, errW_some] <;> rfl) | (simp [*, errW_none, errW_some] <;> rfl), by repeat (first | (with_reducible first | exact HB.out | apply below_alloc | apply pw_below_drewN | apply below_drew1) | exact HB.out)⟩
                            · rw [if_neg c22] at H
                              have c22b0 : (a0 == 2) = false := beq_eq_false_iff_ne.mpr c22
                              have c22b1 : (a0 != 2) = true := bne_iff_ne.mpr c22
                              obtain rfl := Option.some.inj H
                              go_wp2_with (first | (go_at_call 14; (with_reducible refine (shape_Params.calls kj10 a0 (wrap64 (a1 - 1)) a2 t142 _ A16.out).mono ?_); rintro e w' ⟨rfl, ⟨nd, rfl⟩⟩) | (go_at_call 14; (with_reducible refine (shape_Params.calls kj10 a0 a1 (wrap64 (a2 - 1)) t143 _ A19.out).mono ?_); rintro e w' ⟨rfl, ⟨nd, rfl⟩⟩))
                              go_ret
                              exact ⟨by first | rfl | (simp [errW_none, errW_some] <;> rfl) | (simp [*, errW_none, errW_some] <;> rfl), by repeat (first | (with_reducible first | exact HB.out | apply below_alloc | apply pw_below_drewN | apply below_drew1) | exact HB.out)⟩
                        · rw [if_neg c20] at H
                          have c20b0 : (t143 == 0) = false := beq_eq_false_iff_ne.mpr c20
                          have c20b1 : (t143 != 0) = true := bne_iff_ne.mpr c20
                          obtain rfl := Option.some.inj H
                          go_wp2_with (first | (go_at_call 14; (with_reducible refine (shape_Params.calls kj10 a0 (wrap64 (a1 - 1)) a2 t142 _ A16.out).mono ?_); rintro e w' ⟨rfl, ⟨nd, rfl⟩⟩) | (go_at_call 14; (with_reducible refine (shape_Params.calls kj10 a0 a1 (wrap64 (a2 - 1)) t143 _ A19.out).mono ?_); rintro e w' ⟨rfl, ⟨nd, rfl⟩⟩))
                          go_ret
                          exact ⟨by first | rfl | (simp [errW_none, errW_some] <;> rfl) | (simp [*, errW_none, errW_some] <;> rfl), by repeat (first | (with_reducible first | exact HB.out | apply below_alloc | apply pw_below_drewN | apply below_drew1) | exact HB.out)⟩
                      · rw [if_neg c18] at H
                        have c18b0 : decide (1 < a2) = false := decide_eq_false c18
                        clear c18
                        by_cases c23 : (wrap64 (a1 + a2)) ≤ 256
                        · rw [if_pos c23] at H
                          have c23b0 : decide ((wrap64 (a1 + a2)) ≤ 256) = true := decide_eq_true c23
                          clear c23
                          obtain rfl := Option.some.inj H
                          go_wp2_with (first | (go_at_call 14; (with_reducible refine (shape_Params.calls kj10 a0 (wrap64 (a1 - 1)) a2 t142 _ A16.out).mono ?_); rintro e w' ⟨rfl, ⟨nd, rfl⟩⟩))
                          go_ret
                          exact ⟨by first | rfl | (simp [errW_none, errW_some] <;> rfl) | (simp [*, errW_none, errW_some] <;> rfl), by repeat (first | (with_reducible first | exact HB.out | apply below_alloc | apply pw_below_drewN | apply below_drew1) | exact HB.out)⟩
                        · rw [if_neg c23] at H
                          have c23b0 : decide ((wrap64 (a1 + a2)) ≤ 256) = false := decide_eq_false c23
                          clear c23
                          by_cases c24 : a0 = 2
                          · rw [if_pos c24] at H
                            have c24b0 : (a0 == 2) = true := beq_iff_eq.mpr c24
                            have c24b1 : (a0 != 2) = false := bne_eq_false_iff_eq.mpr c24
                            clear c24
                            obtain rfl := Option.some.inj H
                            go_wp2_with (first | (go_at_call 14; (with_reducible refine (shape_Params.calls kj10 a0 (wrap64 (a1 - 1)) a2 t142 _ A16.out).mono ?_); rintro e w' ⟨rfl, ⟨nd, rfl⟩⟩))
                            go_ret
                            exact ⟨by first | rfl | (simp [errW_none, errW_some] <;> rfl) | (simp [*, errW_none, errW_some] <;> rfl), by repeat (first | (with_reducible first | exact HB.out | apply below_alloc | apply pw_below_drewN | apply below_drew1) | exact HB.out)⟩
                          · rw [if_neg c24] at H
                            have c24b0 : (a0 == 2) = false := beq_eq_false_iff_ne.mpr c24
                            have c24b1 : (a0 != 2) = true := bne_iff_ne.mpr c24
                            obtain rfl := Option.some.inj H
                            go_wp2_with (first | (go_at_call 14; (with_reducible refine (shape_Params.calls kj10 a0 (wrap64 (a1 - 1)) a2 t142 _ A16.out).mono ?_); rintro e w' ⟨rfl, ⟨nd, rfl⟩⟩))
                            go_ret
                            exact ⟨by first | rfl | (simp [errW_none, errW_some] <;> rfl) | (simp [*, errW_none, errW_some] <;> rfl), by repeat (first | (with_reducible first | exact HB.out | apply below_alloc | apply pw_below_drewN | apply below_drew1) | exact HB.out)⟩
                    · rw [if_neg c17] at H
                      have c17b0 : (t142 == 0) = false := beq_eq_false_iff_ne.mpr c17
                      have c17b1 : (t142 != 0) = true := bne_iff_ne.mpr c17
                      obtain rfl := Option.some.inj H
                      go_wp2_with (first | (go_at_call 14; (with_reducible refine (shape_Params.calls kj10 a0 (wrap64 (a1 - 1)) a2 t142 _ A16.out).mono ?_); rintro e w' ⟨rfl, ⟨nd, rfl⟩⟩))
                      go_ret
                      exact ⟨by first | rfl | (simp [errW_none, errW_some] <;> rfl) | (simp [*, errW_none, errW_some] <;> rfl), by repeat (first | (with_reducible first | exact HB.out | apply below_alloc | apply pw_below_drewN | apply below_drew1) | exact HB.out)⟩
                  · rw [if_neg c15] at H
                    have c15b0 : decide (1 < a1) = false := decide_eq_false c15
                    clear c15
                    by_cases c25 : a2 > 1
                    · rw [if_pos c25] at H
                      have c25b0 : decide (1 < a2) = true := decide_eq_true c25
                      clear c25
                      replace H := Option.bind_eq_some_iff.mp H
                      obtain ⟨t144, A260, H⟩ := H
                      replace H : (if t144 = 0 then (if (wrap64 (a1 + a2)) ≤ 256 then (some true) else (if a0 = 2 then (some (decide ((wrap64 (a1 + a2)) ≤ 65536))) else (some false))) else (some false)) = some r := H
                      have A26 := Aside0.mk A260
                      clear A260
                      by_cases c27 : t144 = 0
                      · rw [if_pos c27] at H
                        have c27b0 : (t144 == 0) = true := beq_iff_eq.mpr c27
                        have c27b1 : (t144 != 0) = false := bne_eq_false_iff_eq.mpr c27
                        clear c27
                        by_cases c28 : (wrap64 (a1 + a2)) ≤ 256
                        · rw [if_pos c28] at H
                          have c28b0 : decide ((wrap64 (a1 + a2)) ≤ 256) = true := decide_eq_true c28
                          clear c28
                          obtain rfl := Option.some.inj H
                          go_wp2_with (first | (go_at_call 14; (with_reducible refine (shape_Params.calls kj10 a0 a1 (wrap64 (a2 - 1)) t144 _ A26.out).mono ?_); rintro e w' ⟨rfl, ⟨nd, rfl⟩⟩))
                          go_ret
                          exact ⟨by first | rfl | (simp [errW_none, errW_some] <;> rfl) | (simp [*, errW_none, errW_some] <;> rfl), by repeat (first | (with_reducible first | exact HB.out | apply below_alloc | apply pw_below_drewN | apply below_drew1) | exact HB.out)⟩
                        · rw [if_neg c28] at H
                          have c28b0 : decide ((wrap64 (a1 + a2)) ≤ 256) = false := decide_eq_false c28
                          clear c28
                          by_cases c29 : a0 = 2
                          · rw [if_pos c29] at H
                            have c29b0 : (a0 == 2) = true := beq_iff_eq.mpr c29
                            have c29b1 : (a0 != 2) = false := bne_eq_false_iff_eq.mpr c29
                            clear c29
                            obtain rfl := Option.some.inj H
                            go_wp2_with (first | (go_at_call 14; (with_reducible refine (shape_Params.calls kj10 a0 a1 (wrap64 (a2 - 1)) t144 _ A26.out).mono ?_); rintro e w' ⟨rfl, ⟨nd, rfl⟩⟩))
                            go_ret
                            exact ⟨by first | rfl | (simp [errW_none, errW_some] <;> rfl) | (simp [*, errW_none, errW_some] <;> rfl), by repeat (first | (with_reducible first | exact HB.out | apply below_alloc | apply pw_below_drewN | apply below_drew1) | exact HB.out)⟩
                          · rw [if_neg c29] at H
                            have c29b0 : (a0 == 2) = false := beq_eq_false_iff_ne.mpr c29
                            have c29b1 : (a0 != 2) = true := bne_iff_ne.mpr c29
                            obtain rfl := Option.some.inj H
                            go_wp2_with (first | (go_at_call 14; (with_reducible refine (shape_Params.calls kj10 a0 a1 (wrap64 (a2 - 1)) t144 _ A26.out).mono ?_); rintro e w' ⟨rfl, ⟨nd, rfl⟩⟩))
                            go_ret
                            exact ⟨by first | rfl | (simp [errW_none, errW_some] <;> rfl) | (simp [*, errW_none, errW_some] <;> rfl), by repeat (first | (with_reducible first | exact HB.out | apply below_alloc | apply pw_below_drewN | apply below_drew1) | exact HB.out)⟩
                      · rw [if_neg c27] at H
                        have c27b0 : (t144 == 0) = false := beq_eq_false_iff_ne.mpr c27
                        have c27b1 : (t144 != 0) = true := bne_iff_ne.mpr c27
                        obtain rfl := Option.some.inj H
                        go_wp2_with (first | (go_at_call 14; (with_reducible refine (shape_Params.calls kj10 a0 a1 (wrap64 (a2 - 1)) t144 _ A26.out).mono ?_); rintro e w' ⟨rfl, ⟨nd, rfl⟩⟩))
                        go_ret
                        exact ⟨by first | rfl | (simp [errW_none, errW_some] <;> rfl) | (simp [*, errW_none, errW_some] <;> rfl), by repeat (first | (with_reducible first | exact HB.out | apply below_alloc | apply pw_below_drewN | apply below_drew1) | exact HB.out)⟩
                    · rw [if_neg c25] at H
                      have c25b0 : decide (1 < a2) = false := decide_eq_false c25
                      clear c25
                      by_cases c30 : (wrap64 (a1 + a2)) ≤ 256
                      · rw [if_pos c30] at H
                        have c30b0 : decide ((wrap64 (a1 + a2)) ≤ 256) = true := decide_eq_true c30
                        clear c30
                        obtain rfl := Option.some.inj H
                        go_wp2
                        go_ret
                        exact ⟨by first | rfl | (simp [errW_none, errW_some] <;> rfl) | (simp [*, errW_none, errW_some] <;> rfl), by repeat (first | (with_reducible first | exact HB.out | apply below_alloc | apply pw_below_drewN | apply below_drew1) | exact HB.out)⟩
                      · rw [if_neg c30] at H
                        have c30b0 : decide ((wrap64 (a1 + a2)) ≤ 256) = false := decide_eq_false c30
                        clear c30
                        by_cases c31 : a0 = 2
                        · rw [if_pos c31] at H
                          have c31b0 : (a0 == 2) = true := beq_iff_eq.mpr c31
                          have c31b1 : (a0 != 2) = false := bne_eq_false_iff_eq.mpr c31
                          clear c31
                          obtain rfl := Option.some.inj H
                          go_wp2
                          go_ret
                          exact ⟨by first | rfl | (simp [errW_none, errW_some] <;> rfl) | (simp [*, errW_none, errW_some] <;> rfl), by repeat (first | (with_reducible first | exact HB.out | apply below_alloc | apply pw_below_drewN | apply below_drew1) | exact HB.out)⟩
                        · rw [if_neg c31] at H
                          have c31b0 : (a0 == 2) = false := beq_eq_false_iff_ne.mpr c31
                          have c31b1 : (a0 != 2) = true := bne_iff_ne.mpr c31
                          obtain rfl := Option.some.inj H
                          go_wp2
                          go_ret
                          exact ⟨by first | rfl | (simp [errW_none, errW_some] <;> rfl) | (simp [*, errW_none, errW_some] <;> rfl), by repeat (first | (with_reducible first | exact HB.out | apply below_alloc | apply pw_below_drewN | apply below_drew1) | exact HB.out)⟩
                · rw [if_neg c14] at H
                  have c14b0 : (t141 == 0) = false := beq_eq_false_iff_ne.mpr c14
                  have c14b1 : (t141 != 0) = true := bne_iff_ne.mpr c14
                  by_cases c32 : t141 = 4
                  · rw [if_pos c32] at H
                    have c32b0 : (t141 == 4) = true := beq_iff_eq.mpr c32
                    have c32b1 : (t141 != 4) = false := bne_eq_false_iff_eq.mpr c32
                    clear c32
                    have HC33 := Aside0.mk H
                    clear H
                    go_upto_region 14 with (fail)
                    go_cut [75] (fun v75 wc => ∃ (kq : Nat) (x75_32 : Bool), v75 = .bool x75_32 ∧ Aside0 (culletlaw16_ShapeLimits.j2 kq a0 a1 a2 x75_32 = some r) ∧ Aside0 (kq ≤ kj10) ∧ Aside0 (Below w.heap.size w wc))
                    case first =>
                      have H := HC33.out
                      clear HC33
                      by_cases c34 : a1 > 1048576
                      · rw [if_pos c34] at H
                        have c34b0 : decide (1048576 < a1) = true := decide_eq_true c34
                        clear c34
                        (first | rw [c34b0] | (simp only [i64_w, i32_w]; rw [c34b0]) | skip)
                        have H' := Aside0.mk H
                        clear H
                        go_wp2
                        go_meet
                        case rel => exact ⟨_, (true), (by first | rfl | (simp; done) | (simp [*]; done)), H', ⟨by have := HJ6.out; have := HJ10.out; first | omega | exact Nat.le_refl _⟩, ⟨by repeat (first | (with_reducible first | exact HB.out | apply below_alloc | apply pw_below_drewN | apply below_drew1) | exact HB.out)⟩⟩
                      · rw [if_neg c34] at H
                        have c34b0 : decide (1048576 < a1) = false := decide_eq_false c34
                        clear c34
                        (first | rw [c34b0] | (simp only [i64_w, i32_w]; rw [c34b0]) | skip)
                        have H' := Aside0.mk H
                        clear H
                        go_wp2
                        go_meet
                        case rel => exact ⟨_, (decide (a2 > 1048576)), (by first | rfl | (simp; done) | (simp [*]; done)), H', ⟨by have := HJ6.out; have := HJ10.out; first | omega | exact Nat.le_refl _⟩, ⟨by repeat (first | (with_reducible first | exact HB.out | apply below_alloc | apply pw_below_drewN | apply below_drew1) | exact HB.out)⟩⟩
                    case rest =>
                      clear HC33
                      try clear c1
                      try clear c2
                      try clear p2
                      try clear c3
                      try clear c4
                      try clear c5
                      try clear p6
                      try clear c9
                      try clear c9b0
                      try clear c10
                      try clear c12
                      try clear c12b0
                      try clear c13
                      try clear c14
                      try clear c14b0
                      try clear c14b1
                      try clear c15
                      try clear c15b0
                      try clear c17
                      try clear c17b0
                      try clear c17b1
                      try clear c18
                      try clear c18b0
                      try clear c20
                      try clear c20b0
                      try clear c20b1
                      try clear c21
                      try clear c21b0
                      try clear c22
                      try clear c22b0
                      try clear c22b1
                      try clear c23
                      try clear c23b0
                      try clear c24
                      try clear c24b0
                      try clear c24b1
                      try clear c25
                      try clear c25b0
                      try clear c27
                      try clear c27b0
                      try clear c27b1
                      try clear c28
                      try clear c28b0
                      try clear c29
                      try clear c29b0
                      try clear c29b1
                      try clear c30
                      try clear c30b0
                      try clear c31
                      try clear c31b0
                      try clear c31b1
                      try clear c32
                      try clear c32b0
                      try clear c32b1
                      try clear c34
                      try clear c34b0
                      try clear p2
                      obtain ⟨kq, x75_32, rfl, HA, HJ32, HB⟩ := hcut
                      cases kq with
                      | zero => exact absurd HA.out (by simp [culletlaw16_ShapeLimits.j2])
                      | succ kj32 =>
                        have H := HA.out
                        clear HA
                        simp only [culletlaw16_ShapeLimits.j2] at H
                        by_cases c35 : x75_32 = true
                        · subst c35
                          have H1 : (some true) = some r := by rw [if_pos rfl] at H; exact H
                          clear H
                          have H := H1
                          clear H1
                          obtain rfl := Option.some.inj H
                          go_wp2
                          go_ret
                          exact ⟨by first | rfl | (simp [errW_none, errW_some] <;> rfl) | (simp [*, errW_none, errW_some] <;> rfl), by repeat (first | (with_reducible first | exact HB.out | apply below_alloc | apply pw_below_drewN | apply below_drew1) | exact HB.out)⟩
                        · replace c35 := Bool.eq_false_iff.mpr c35
                          subst c35
                          have H1 : (if a0 = 2 then (if (wrap64 (a1 + a2)) > 65536 then (some true) else (if (Go.bits .and .i64 a2 (wrap64 (a2 - 1))) = 0 then (some false) else (some (decide ((wrap64 (a1 + (wrap64 (2 * a2)))) > 65536))))) else (some (decide ((wrap64 (a1 + a2)) > 256)))) = some r := by rw [if_neg (show ¬ (false = true) by decide)] at H; exact H
                          clear H
                          have H := H1
                          clear H1
                          by_cases c36 : a0 = 2
                          · rw [if_pos c36] at H
                            have c36b0 : (a0 == 2) = true := beq_iff_eq.mpr c36
                            have c36b1 : (a0 != 2) = false := bne_eq_false_iff_eq.mpr c36
                            clear c36
                            by_cases c37 : (wrap64 (a1 + a2)) > 65536
                            · rw [if_pos c37] at H
                              have c37b0 : decide (65536 < (wrap64 (a1 + a2))) = true := decide_eq_true c37
                              clear c37
                              obtain rfl := Option.some.inj H
                              go_wp2
                              go_ret
                              exact ⟨by first | rfl | (simp [errW_none, errW_some] <;> rfl) | (simp [*, errW_none, errW_some] <;> rfl), by repeat (first | (with_reducible first | exact HB.out | apply below_alloc | apply pw_below_drewN | apply below_drew1) | exact HB.out)⟩
                            · rw [if_neg c37] at H
                              have c37b0 : decide (65536 < (wrap64 (a1 + a2))) = false := decide_eq_false c37
                              clear c37
                              by_cases c38 : (Go.bits .and .i64 a2 (wrap64 (a2 - 1))) = 0
                              · rw [if_pos c38] at H
                                have c38b0 : ((Go.bits .and .i64 a2 (wrap64 (a2 - 1))) == 0) = true := beq_iff_eq.mpr c38
                                have c38b1 : ((Go.bits .and .i64 a2 (wrap64 (a2 - 1))) != 0) = false := bne_eq_false_iff_eq.mpr c38
                                clear c38
                                obtain rfl := Option.some.inj H
                                go_wp2
                                go_ret
                                exact ⟨by first | rfl | (simp [errW_none, errW_some] <;> rfl) | (simp [*, errW_none, errW_some] <;> rfl), by repeat (first | (with_reducible first | exact HB.out | apply below_alloc | apply pw_below_drewN | apply below_drew1) | exact HB.out)⟩
                              · rw [if_neg c38] at H
                                have c38b0 : ((Go.bits .and .i64 a2 (wrap64 (a2 - 1))) == 0) = false := beq_eq_false_iff_ne.mpr c38
                                have c38b1 : ((Go.bits .and .i64 a2 (wrap64 (a2 - 1))) != 0) = true := bne_iff_ne.mpr c38
                                obtain rfl := Option.some.inj H
                                go_wp2
                                go_ret
                                exact ⟨by first | rfl | (simp [errW_none, errW_some] <;> rfl) | (simp [*, errW_none, errW_some] <;> rfl), by repeat (first | (with_reducible first | exact HB.out | apply below_alloc | apply pw_below_drewN | apply below_drew1) | exact HB.out)⟩
                          · rw [if_neg c36] at H
                            have c36b0 : (a0 == 2) = false := beq_eq_false_iff_ne.mpr c36
                            have c36b1 : (a0 != 2) = true := bne_iff_ne.mpr c36
                            obtain rfl := Option.some.inj H
                            go_wp2
                            go_ret
                            exact ⟨by first | rfl | (simp [errW_none, errW_some] <;> rfl) | (simp [*, errW_none, errW_some] <;> rfl), by repeat (first | (with_reducible first | exact HB.out | apply below_alloc | apply pw_below_drewN | apply below_drew1) | exact HB.out)⟩
                  · rw [if_neg c32] at H
                    have c32b0 : (t141 == 4) = false := beq_eq_false_iff_ne.mpr c32
                    have c32b1 : (t141 != 4) = true := bne_iff_ne.mpr c32
                    obtain rfl := Option.some.inj H
                    go_wp2
                    go_ret
                    exact ⟨by first | rfl | (simp [errW_none, errW_some] <;> rfl) | (simp [*, errW_none, errW_some] <;> rfl), by repeat (first | (with_reducible first | exact HB.out | apply below_alloc | apply pw_below_drewN | apply below_drew1) | exact HB.out)⟩
  · replace c5 := Bool.eq_false_iff.mpr c5
    subst c5
    have H1 : (some false) = some r := by rw [if_neg (show ¬ (false = true) by decide)] at H; exact H
    clear H
    have H := H1
    clear H1
    obtain rfl := Option.some.inj H
    go_enter Try.func4, Try.ntmps4
    go_wp2_with (first | ((with_reducible refine gate_callee (f := 13) rfl ?_); refine goesL_ (some 8) rfl rfl Try.func13 (by kernel_rfl) rfl #[] rfl (by (try simp only [List.map_toArray, List.map_cons, List.map_nil]); first | done | rfl | (simp only [List.length_drop, List.length_take]; rfl)) ?_; (with_reducible refine (culletlaw16_awake.calls k  false _ A4.out).mono ?_); rintro e w39 ⟨rfl, hb⟩; refine ⟨_, rfl, ?_⟩; have n0_ := Aside0.mk (below_step (by repeat (first | (with_reducible first | exact HB.out | apply below_alloc | apply pw_below_drewN | apply below_drew1) | exact HB.out)) hb); clear HB; have HB := n0_; clear n0_; (try clear hb); (try clear hb2); (try clear hk); (try clear hi)))
    go_ret
    exact ⟨by first | rfl | (simp [errW_none, errW_some] <;> rfl) | (simp [*, errW_none, errW_some] <;> rfl), by repeat (first | (with_reducible first | exact HB.out | apply below_alloc | apply pw_below_drewN | apply below_drew1) | exact HB.out)⟩

/-- THE ONE PURE STATEMENT of culletlaw16_ShapeLimits: yours. -/
def culletlaw16_ShapeLimits.Pure : Prop := ∀ (a0 : Int) (a1 : Int) (a2 : Int), (Lit.int .i64 a0).wf = true → (Lit.int .i64 a1).wf = true → (Lit.int .i64 a2).wf = true → ∃ k, culletlaw16_ShapeLimits.f k a0 a1 a2 = some true
theorem culletlaw16_ShapeLimits.walk (P : culletlaw16_ShapeLimits.Pure) (a0 : Int) (a1 : Int) (a2 : Int) (w : World) (w0 : (Lit.int .i64 a0).wf = true) (w1 : (Lit.int .i64 a1).wf = true) (w2 : (Lit.int .i64 a2).wf = true) :
    Calls Try.prog 4 #[.int .i64 a0, .int .i64 a1, .int .i64 a2] w fun e w' => e = .returned (.bool true) ∧ Below w.heap.size w w' := by
  obtain ⟨k, h⟩ := P a0 a1 a2 w0 w1 w2
  refine (culletlaw16_ShapeLimits.calls k a0 a1 a2 true w h).mono ?_
  rintro e w' ⟨rfl, hd⟩
  exact ⟨rfl, hd⟩

end Go.Proofs.Ytcbjabnnokjnpaa.PA
