-- Written by a program of this session (wip/drive.py) for this seat.
import Derived.Test.YtcnabolainmaeaaPAx0
import Derived.Test.YtcnabolainmaeaaPAx1
import Derived.Test.YtcnabolainmaeaaPAx2
import Derived.Test.YtcnabolainmaeaaPAx3
namespace Go.Proofs.Ytcnabolainmaeaa.PA
open Go.RowKit Go.Proofs.YtcnabolainmaeaaW.PrintWords Go.Proofs.YtcnabolainmaeaaW.PrintLast Go.Proofs.YtcnabolainmaeaaW.PrintMore
attribute [local go_sem] max2_int min2_int max_two min_two max_three min_three max_four min_four   -- for this text's walks alone
set_option linter.unusedVariables false
set_option linter.unusedSimpArgs false

/-! ### culletlaw13_LchAdditive: function 3 -/
mutual
def culletlaw13_LchAdditive.j0 : Nat → Int → Int → Int → Int → Int → List Int → Int → Bool → Option (Bool)
  | 0, _, _, _, _, _, _, _, _ => none
  | k + 1, x0, x1, x2, x7, x8, x9, x10, x37 => if x37 = true then (if x7 = 0 then (if (x9.length : Int) = 0 then (if x8 = 7 then (some (x10 == 7)) else (some false)) else (some false)) else (some false)) else ((lch_Vanish.f k x0 x2).bind fun bt169 => ((lch_Vanish.f k x0 (Go.bits .xor .u16 x1 x2)).bind fun bt171 => (if x8 = 0 then (if x10 = 0 then (if bt169.2 = 0 then (if bt171.2 = 0 then (if bt171.1 = (Go.bits .xor .u16 x7 bt169.1) then (culletlaw13_LchAdditive.j1 k x0 x1 x7 x9 ((x9.length : Int) != (wrap64 (x0 + 1)))) else (culletlaw13_LchAdditive.j1 k x0 x1 x7 x9 true)) else (culletlaw13_LchAdditive.j1 k x0 x1 x7 x9 true)) else (culletlaw13_LchAdditive.j1 k x0 x1 x7 x9 true)) else (culletlaw13_LchAdditive.j1 k x0 x1 x7 x9 true)) else (culletlaw13_LchAdditive.j1 k x0 x1 x7 x9 true))))
def culletlaw13_LchAdditive.j1 : Nat → Int → Int → Int → List Int → Bool → Option (Bool)
  | 0, _, _, _, _, _ => none
  | k + 1, x0, x1, x7, x9, x94 => if x94 = true then (some false) else (culletlaw13_LchAdditive.l0 k x0 x1 x7 x9 0 x1 0)
def culletlaw13_LchAdditive.l0 : Nat → Int → Int → Int → List Int → Int → Int → Int → Option (Bool)
  | 0, _, _, _, _, _, _, _ => none
  | k + 1, x0, x1, x7, x9, x15, x16, x17 => if x17 ≤ x0 then (if 0 ≤ x17 then (if x17 < (x9.length : Int) then ((gf16_Mul.f k (rd x9 x17) x16).bind fun t174 => ((gf16_Mul.f k x16 x16).bind fun t175 => (culletlaw13_LchAdditive.l0 k x0 x1 x7 x9 (Go.bits .xor .u16 x15 t174) t175 (wrap64 (x17 + 1))))) else (none)) else (none)) else (if x15 = x7 then (if x0 = 16 then (some (x7 == 0)) else ((lch_Vanish.f k (wrap64 (x0 + 1)) x1).bind fun bt176 => (if bt176.2 = 0 then ((gf16_Mul.f k x7 x7).bind fun t178 => (some (bt176.1 == (Go.bits .xor .u16 t178 x7)))) else (some false)))) else (some false))
end
def culletlaw13_LchAdditive.f (k : Nat) (a0 : Int) (a1 : Int) (a2 : Int) : Option (Bool) := (culletlaw13_awake.f k).bind fun t162 => (if t162 = true then ((lch_Vanish.f k a0 a1).bind fun bt163 => ((lch_Linear.f k a0).bind fun bt165 => (if a0 < 0 then (culletlaw13_LchAdditive.j0 k a0 a1 a2 bt163.1 bt163.2 bt165.1 bt165.2 true) else (culletlaw13_LchAdditive.j0 k a0 a1 a2 bt163.1 bt163.2 bt165.1 bt165.2 (decide (a0 > 16)))))) else (some false))
theorem culletlaw13_LchAdditive.mono_l : ∀ k, (∀ y0 y1 y2 y3 y4 y5 y6 y7, LeO (culletlaw13_LchAdditive.j0 k y0 y1 y2 y3 y4 y5 y6 y7) (culletlaw13_LchAdditive.j0 (k + 1) y0 y1 y2 y3 y4 y5 y6 y7)) ∧ (∀ y0 y1 y2 y3 y4, LeO (culletlaw13_LchAdditive.j1 k y0 y1 y2 y3 y4) (culletlaw13_LchAdditive.j1 (k + 1) y0 y1 y2 y3 y4)) ∧ (∀ y0 y1 y2 y3 y4 y5 y6, LeO (culletlaw13_LchAdditive.l0 k y0 y1 y2 y3 y4 y5 y6) (culletlaw13_LchAdditive.l0 (k + 1) y0 y1 y2 y3 y4 y5 y6))
  | 0 => ⟨fun _ _ _ _ _ _ _ _ r h => by simp [culletlaw13_LchAdditive.j0] at h, fun _ _ _ _ _ r h => by simp [culletlaw13_LchAdditive.j1] at h, fun _ _ _ _ _ _ _ r h => by simp [culletlaw13_LchAdditive.l0] at h⟩
  | k + 1 => by
    obtain ⟨ih0, ih1, ih2⟩ := culletlaw13_LchAdditive.mono_l k
    refine ⟨?_, ?_, ?_⟩
    · intro y0 y1 y2 y3 y4 y5 y6 y7
      unfold culletlaw13_LchAdditive.j0
      repeat' first
      | (with_reducible exact ih0 _ _ _ _ _ _ _ _)
      | (with_reducible exact ih1 _ _ _ _ _)
      | (with_reducible exact ih2 _ _ _ _ _ _ _)
      | (with_reducible exact culletlaw13_awake.mono _)
      | (with_reducible exact gf16_Mul.mono _ _ _)
      | (with_reducible exact lch_Linear.mono _ _)
      | (with_reducible exact lch_Vanish.mono _ _ _)
      | (with_reducible exact LeO.refl _)
      | (with_reducible exact LeO.none _)
      | (with_reducible refine LeO.ite ?_ ?_)
      | (with_reducible refine LeO.bind ?_ (fun _ => ?_))
      | exact ih0 _ _ _ _ _ _ _ _
      | exact ih1 _ _ _ _ _
      | exact ih2 _ _ _ _ _ _ _
      | exact culletlaw13_awake.mono _
      | exact gf16_Mul.mono _ _ _
      | exact lch_Linear.mono _ _
      | exact lch_Vanish.mono _ _ _
      | exact LeO.none _
      | refine LeO.ite ?_ ?_
      | refine LeO.bind ?_ (fun _ => ?_)
    · intro y0 y1 y2 y3 y4
      unfold culletlaw13_LchAdditive.j1
      repeat' first
      | (with_reducible exact ih0 _ _ _ _ _ _ _ _)
      | (with_reducible exact ih1 _ _ _ _ _)
      | (with_reducible exact ih2 _ _ _ _ _ _ _)
      | (with_reducible exact culletlaw13_awake.mono _)
      | (with_reducible exact gf16_Mul.mono _ _ _)
      | (with_reducible exact lch_Linear.mono _ _)
      | (with_reducible exact lch_Vanish.mono _ _ _)
      | (with_reducible exact LeO.refl _)
      | (with_reducible exact LeO.none _)
      | (with_reducible refine LeO.ite ?_ ?_)
      | (with_reducible refine LeO.bind ?_ (fun _ => ?_))
      | exact ih0 _ _ _ _ _ _ _ _
      | exact ih1 _ _ _ _ _
      | exact ih2 _ _ _ _ _ _ _
      | exact culletlaw13_awake.mono _
      | exact gf16_Mul.mono _ _ _
      | exact lch_Linear.mono _ _
      | exact lch_Vanish.mono _ _ _
      | exact LeO.none _
      | refine LeO.ite ?_ ?_
      | refine LeO.bind ?_ (fun _ => ?_)
    · intro y0 y1 y2 y3 y4 y5 y6
      unfold culletlaw13_LchAdditive.l0
      repeat' first
      | (with_reducible exact ih0 _ _ _ _ _ _ _ _)
      | (with_reducible exact ih1 _ _ _ _ _)
      | (with_reducible exact ih2 _ _ _ _ _ _ _)
      | (with_reducible exact culletlaw13_awake.mono _)
      | (with_reducible exact gf16_Mul.mono _ _ _)
      | (with_reducible exact lch_Linear.mono _ _)
      | (with_reducible exact lch_Vanish.mono _ _ _)
      | (with_reducible exact LeO.refl _)
      | (with_reducible exact LeO.none _)
      | (with_reducible refine LeO.ite ?_ ?_)
      | (with_reducible refine LeO.bind ?_ (fun _ => ?_))
      | exact ih0 _ _ _ _ _ _ _ _
      | exact ih1 _ _ _ _ _
      | exact ih2 _ _ _ _ _ _ _
      | exact culletlaw13_awake.mono _
      | exact gf16_Mul.mono _ _ _
      | exact lch_Linear.mono _ _
      | exact lch_Vanish.mono _ _ _
      | exact LeO.none _
      | refine LeO.ite ?_ ?_
      | refine LeO.bind ?_ (fun _ => ?_)
theorem culletlaw13_LchAdditive.mono : ∀ a0 a1 a2 k, LeO (culletlaw13_LchAdditive.f k a0 a1 a2) (culletlaw13_LchAdditive.f (k + 1) a0 a1 a2) := by
  intro a0 a1 a2 k
  obtain ⟨ih0, ih1, ih2⟩ := culletlaw13_LchAdditive.mono_l k
  unfold culletlaw13_LchAdditive.f
  repeat' first
      | (with_reducible exact ih0 _ _ _ _ _ _ _ _)
      | (with_reducible exact ih1 _ _ _ _ _)
      | (with_reducible exact ih2 _ _ _ _ _ _ _)
      | (with_reducible exact culletlaw13_awake.mono _)
      | (with_reducible exact gf16_Mul.mono _ _ _)
      | (with_reducible exact lch_Linear.mono _ _)
      | (with_reducible exact lch_Vanish.mono _ _ _)
      | (with_reducible exact LeO.refl _)
      | (with_reducible exact LeO.none _)
      | (with_reducible refine LeO.ite ?_ ?_)
      | (with_reducible refine LeO.bind ?_ (fun _ => ?_))
      | exact ih0 _ _ _ _ _ _ _ _
      | exact ih1 _ _ _ _ _
      | exact ih2 _ _ _ _ _ _ _
      | exact culletlaw13_awake.mono _
      | exact gf16_Mul.mono _ _ _
      | exact lch_Linear.mono _ _
      | exact lch_Vanish.mono _ _ _
      | exact LeO.none _
      | refine LeO.ite ?_ ?_
      | refine LeO.bind ?_ (fun _ => ?_)
set_option maxHeartbeats 8000000 in
set_option maxRecDepth 100000 in
theorem culletlaw13_LchAdditive.calls (k : Nat) (a0 : Int) (a1 : Int) (a2 : Int) (r : Bool) (w : World) (h : culletlaw13_LchAdditive.f k a0 a1 a2 = some r) :
    Calls Try.prog 3 #[.int .i64 a0, .int .u16 a1, .int .u16 a2] w fun e w' => e = .returned (.bool r) ∧ Below w.heap.size w w' := by
  have HB := Aside0.mk (Below.refl w.heap.size w)
  have H : ((culletlaw13_awake.f k).bind fun t162 => (if t162 = true then ((lch_Vanish.f k a0 a1).bind fun bt163 => ((lch_Linear.f k a0).bind fun bt165 => (if a0 < 0 then (culletlaw13_LchAdditive.j0 k a0 a1 a2 bt163.1 bt163.2 bt165.1 bt165.2 true) else (culletlaw13_LchAdditive.j0 k a0 a1 a2 bt163.1 bt163.2 bt165.1 bt165.2 (decide (a0 > 16)))))) else (some false))) = some r := h
  clear h
  replace H := Option.bind_eq_some_iff.mp H
  obtain ⟨t162, A40, H⟩ := H
  replace H : (if t162 = true then ((lch_Vanish.f k a0 a1).bind fun bt163 => ((lch_Linear.f k a0).bind fun bt165 => (if a0 < 0 then (culletlaw13_LchAdditive.j0 k a0 a1 a2 bt163.1 bt163.2 bt165.1 bt165.2 true) else (culletlaw13_LchAdditive.j0 k a0 a1 a2 bt163.1 bt163.2 bt165.1 bt165.2 (decide (a0 > 16)))))) else (some false)) = some r := H
  have A4 := Aside0.mk A40
  clear A40
  by_cases c5 : t162 = true
  · subst c5
    have H1 : ((lch_Vanish.f k a0 a1).bind fun bt163 => ((lch_Linear.f k a0).bind fun bt165 => (if a0 < 0 then (culletlaw13_LchAdditive.j0 k a0 a1 a2 bt163.1 bt163.2 bt165.1 bt165.2 true) else (culletlaw13_LchAdditive.j0 k a0 a1 a2 bt163.1 bt163.2 bt165.1 bt165.2 (decide (a0 > 16)))))) = some r := by rw [if_pos rfl] at H; exact H
    clear H
    have H := H1
    clear H1
    replace H := Option.bind_eq_some_iff.mp H
    obtain ⟨⟨t163, t164⟩, A60, H⟩ := H
    replace H : ((lch_Linear.f k a0).bind fun bt165 => (if a0 < 0 then (culletlaw13_LchAdditive.j0 k a0 a1 a2 t163 t164 bt165.1 bt165.2 true) else (culletlaw13_LchAdditive.j0 k a0 a1 a2 t163 t164 bt165.1 bt165.2 (decide (a0 > 16))))) = some r := H
    have A6 := Aside0.mk A60
    clear A60
    replace H := Option.bind_eq_some_iff.mp H
    obtain ⟨⟨t165, t166⟩, A70, H⟩ := H
    replace H : (if a0 < 0 then (culletlaw13_LchAdditive.j0 k a0 a1 a2 t163 t164 t165 t166 true) else (culletlaw13_LchAdditive.j0 k a0 a1 a2 t163 t164 t165 t166 (decide (a0 > 16)))) = some r := H
    have A7 := Aside0.mk A70
    clear A70
    have HC8 := Aside0.mk H
    clear H
    go_enter Try.func3, Try.ntmps3
    go_upto_region 5 with (first | ((with_reducible refine gate_callee (f := 12) rfl ?_); refine goesL_ (some 19) rfl rfl Try.func12 (by kernel_rfl) rfl #[] rfl (by (try simp only [List.map_toArray, List.map_cons, List.map_nil]); first | done | rfl | (simp only [List.length_drop, List.length_take]; rfl)) ?_; (with_reducible refine (culletlaw13_awake.calls k  true _ A4.out).mono ?_); rintro e w9 ⟨rfl, hb⟩; refine ⟨_, rfl, ?_⟩; have n0_ := Aside0.mk (below_step (by repeat (first | (with_reducible first | exact HB.out | apply below_alloc | apply pw_below_drewN | apply below_drew1) | exact HB.out)) hb); clear HB; have HB := n0_; clear n0_; (try clear hb); (try clear hb2); (try clear hk); (try clear hi)) | ((with_reducible refine gate_callee (f := 13) rfl ?_); refine goesL_ (some 24) rfl rfl Try.func13 (by kernel_rfl) rfl #[.int .i64 a0, .int .u16 a1] rfl (by (try simp only [List.map_toArray, List.map_cons, List.map_nil]); first | done | rfl | (simp only [List.length_drop, List.length_take]; rfl)) ?_; (with_reducible refine (lch_Vanish.calls k a0 a1 t163 t164 _ A6.out).mono ?_); rintro e w' ⟨rfl, ⟨nd, rfl⟩⟩; refine ⟨_, rfl, ?_⟩) | ((with_reducible refine gate_callee (f := 14) rfl ?_); refine goesL_ (some 29) rfl rfl Try.func14 (by kernel_rfl) rfl #[.int .i64 a0] rfl (by (try simp only [List.map_toArray, List.map_cons, List.map_nil]); first | done | rfl | (simp only [List.length_drop, List.length_take]; rfl)) ?_; (with_reducible refine (lch_Linear.calls k a0 t165 t166 _ A7.out).mono ?_); rintro e w10 ⟨v167, rfl, ho0, hb⟩; refine ⟨_, rfl, ?_⟩; have n0_ := Aside0.mk (Kd.R_lower ho0 (below_size (by repeat (first | (with_reducible first | exact HB.out | apply below_alloc | apply pw_below_drewN | apply below_drew1) | exact HB.out)))); have n1_ := Aside0.mk (below_step (by repeat (first | (with_reducible first | exact HB.out | apply below_alloc | apply pw_below_drewN | apply below_drew1) | exact HB.out)) hb); clear HB; have HO168 := n0_; have HB := n1_; clear n0_ n1_; (try clear hb); (try clear hb2); (try clear hk); (try clear hi); (try clear ho0)))
    (try simp only [Act.put, List.setIfInBounds_toArray, List.set_cons_zero, List.set_cons_succ])
    go_cut [37] (fun v37 wc => ∃ (kq : Nat) (x37_7 : Bool), v37 = .bool x37_7 ∧ Aside0 (culletlaw13_LchAdditive.j0 kq a0 a1 a2 t163 t164 t165 t166 x37_7 = some r) ∧ Aside0 (kq ≤ k) ∧ Aside0 (Kd.R (Kd.int .u16) 22 wc w.heap.size (fun _ => True) v167 t165) ∧ Aside0 (Below w.heap.size w wc))
    case first =>
      have H := HC8.out
      clear HC8
      by_cases c11 : a0 < 0
      · rw [if_pos c11] at H
        have c11b0 : decide (a0 < 0) = true := decide_eq_true c11
        clear c11
        (first | rw [c11b0] | (simp only [i64_w, i32_w]; rw [c11b0]) | skip)
        have H' := Aside0.mk H
        clear H
        go_wp2
        go_meet
        case rel => exact ⟨_, (true), (by first | rfl | (simp; done) | (simp [*]; done)), H', ⟨by first | omega | exact Nat.le_refl _⟩, ⟨by (with_reducible repeat (first | apply Kd.R_alloc | apply Kd.R_drewN | apply Kd.R_drew)); exact HO168.out⟩, ⟨by repeat (first | (with_reducible first | exact HB.out | apply below_alloc | apply pw_below_drewN | apply below_drew1) | exact HB.out)⟩⟩
      · rw [if_neg c11] at H
        have c11b0 : decide (a0 < 0) = false := decide_eq_false c11
        clear c11
        (first | rw [c11b0] | (simp only [i64_w, i32_w]; rw [c11b0]) | skip)
        have H' := Aside0.mk H
        clear H
        go_wp2
        go_meet
        case rel => exact ⟨_, (decide (a0 > 16)), (by first | rfl | (simp; done) | (simp [*]; done)), H', ⟨by first | omega | exact Nat.le_refl _⟩, ⟨by (with_reducible repeat (first | apply Kd.R_alloc | apply Kd.R_drewN | apply Kd.R_drew)); exact HO168.out⟩, ⟨by repeat (first | (with_reducible first | exact HB.out | apply below_alloc | apply pw_below_drewN | apply below_drew1) | exact HB.out)⟩⟩
    case rest =>
      clear HC8
      try clear c1
      try clear p2
      try clear c3
      try clear c5
      try clear c11
      try clear c11b0
      obtain ⟨kq, x37_7, rfl, HA, HJ7, HO_9, HB⟩ := hcut
      cases kq with
      | zero => exact absurd HA.out (by simp [culletlaw13_LchAdditive.j0])
      | succ kj7 =>
        have H := HA.out
        clear HA
        simp only [culletlaw13_LchAdditive.j0] at H
        by_cases c12 : x37_7 = true
        · subst c12
          have H1 : (if t163 = 0 then (if (t165.length : Int) = 0 then (if t164 = 7 then (some (t166 == 7)) else (some false)) else (some false)) else (some false)) = some r := by rw [if_pos rfl] at H; exact H
          clear H
          have H := H1
          clear H1
          by_cases c13 : t163 = 0
          · rw [if_pos c13] at H
            have c13b0 : (t163 == 0) = true := beq_iff_eq.mpr c13
            have c13b1 : (t163 != 0) = false := bne_eq_false_iff_eq.mpr c13
            clear c13
            by_cases c14 : (t165.length : Int) = 0
            · rw [if_pos c14] at H
              have c14b0 : ((t165.length : Int) == 0) = true := beq_iff_eq.mpr c14
              have c14b1 : ((t165.length : Int) != 0) = false := bne_eq_false_iff_eq.mpr c14
              clear c14
              by_cases c15 : t164 = 7
              · rw [if_pos c15] at H
                have c15b0 : (t164 == 7) = true := beq_iff_eq.mpr c15
                have c15b1 : (t164 != 7) = false := bne_eq_false_iff_eq.mpr c15
                clear c15
                obtain rfl := Option.some.inj H
                obtain ⟨Ao16, co16, eo16⟩ := Kd.R_slice HO_9.out
                subst eo16
                go_wp2
                go_ret
                exact ⟨by first | rfl | (simp [errW_none, errW_some] <;> rfl) | (simp [*, errW_none, errW_some] <;> rfl), by repeat (first | (with_reducible first | exact HB.out | apply below_alloc | apply pw_below_drewN | apply below_drew1) | exact HB.out)⟩
              · rw [if_neg c15] at H
                have c15b0 : (t164 == 7) = false := beq_eq_false_iff_ne.mpr c15
                have c15b1 : (t164 != 7) = true := bne_iff_ne.mpr c15
                obtain rfl := Option.some.inj H
                obtain ⟨Ao17, co17, eo17⟩ := Kd.R_slice HO_9.out
                subst eo17
                go_wp2
                go_ret
                exact ⟨by first | rfl | (simp [errW_none, errW_some] <;> rfl) | (simp [*, errW_none, errW_some] <;> rfl), by repeat (first | (with_reducible first | exact HB.out | apply below_alloc | apply pw_below_drewN | apply below_drew1) | exact HB.out)⟩
            · rw [if_neg c14] at H
              have c14b0 : ((t165.length : Int) == 0) = false := beq_eq_false_iff_ne.mpr c14
              have c14b1 : ((t165.length : Int) != 0) = true := bne_iff_ne.mpr c14
              have c14b2 : ¬ (t165 = []) := fun h_ => c14 (by rw [h_]; rfl)
              obtain rfl := Option.some.inj H
              obtain ⟨Ao18, co18, eo18⟩ := Kd.R_slice HO_9.out
              subst eo18
              go_wp2
              go_ret
              exact ⟨by first | rfl | (simp [errW_none, errW_some] <;> rfl) | (simp [*, errW_none, errW_some] <;> rfl), by repeat (first | (with_reducible first | exact HB.out | apply below_alloc | apply pw_below_drewN | apply below_drew1) | exact HB.out)⟩
          · rw [if_neg c13] at H
            have c13b0 : (t163 == 0) = false := beq_eq_false_iff_ne.mpr c13
            have c13b1 : (t163 != 0) = true := bne_iff_ne.mpr c13
            obtain rfl := Option.some.inj H
            go_wp2
            go_ret
            exact ⟨by first | rfl | (simp [errW_none, errW_some] <;> rfl) | (simp [*, errW_none, errW_some] <;> rfl), by repeat (first | (with_reducible first | exact HB.out | apply below_alloc | apply pw_below_drewN | apply below_drew1) | exact HB.out)⟩
        · replace c12 := Bool.eq_false_iff.mpr c12
          subst c12
          have H1 : ((lch_Vanish.f kj7 a0 a2).bind fun bt169 => ((lch_Vanish.f kj7 a0 (Go.bits .xor .u16 a1 a2)).bind fun bt171 => (if t164 = 0 then (if t166 = 0 then (if bt169.2 = 0 then (if bt171.2 = 0 then (if bt171.1 = (Go.bits .xor .u16 t163 bt169.1) then (culletlaw13_LchAdditive.j1 kj7 a0 a1 t163 t165 ((t165.length : Int) != (wrap64 (a0 + 1)))) else (culletlaw13_LchAdditive.j1 kj7 a0 a1 t163 t165 true)) else (culletlaw13_LchAdditive.j1 kj7 a0 a1 t163 t165 true)) else (culletlaw13_LchAdditive.j1 kj7 a0 a1 t163 t165 true)) else (culletlaw13_LchAdditive.j1 kj7 a0 a1 t163 t165 true)) else (culletlaw13_LchAdditive.j1 kj7 a0 a1 t163 t165 true)))) = some r := by rw [if_neg (show ¬ (false = true) by decide)] at H; exact H
          clear H
          have H := H1
          clear H1
          replace H := Option.bind_eq_some_iff.mp H
          obtain ⟨⟨t169, t170⟩, A190, H⟩ := H
          replace H : ((lch_Vanish.f kj7 a0 (Go.bits .xor .u16 a1 a2)).bind fun bt171 => (if t164 = 0 then (if t166 = 0 then (if t170 = 0 then (if bt171.2 = 0 then (if bt171.1 = (Go.bits .xor .u16 t163 t169) then (culletlaw13_LchAdditive.j1 kj7 a0 a1 t163 t165 ((t165.length : Int) != (wrap64 (a0 + 1)))) else (culletlaw13_LchAdditive.j1 kj7 a0 a1 t163 t165 true)) else (culletlaw13_LchAdditive.j1 kj7 a0 a1 t163 t165 true)) else (culletlaw13_LchAdditive.j1 kj7 a0 a1 t163 t165 true)) else (culletlaw13_LchAdditive.j1 kj7 a0 a1 t163 t165 true)) else (culletlaw13_LchAdditive.j1 kj7 a0 a1 t163 t165 true))) = some r := H
          have A19 := Aside0.mk A190
          clear A190
          replace H := Option.bind_eq_some_iff.mp H
          obtain ⟨⟨t171, t172⟩, A200, H⟩ := H
          replace H : (if t164 = 0 then (if t166 = 0 then (if t170 = 0 then (if t172 = 0 then (if t171 = (Go.bits .xor .u16 t163 t169) then (culletlaw13_LchAdditive.j1 kj7 a0 a1 t163 t165 ((t165.length : Int) != (wrap64 (a0 + 1)))) else (culletlaw13_LchAdditive.j1 kj7 a0 a1 t163 t165 true)) else (culletlaw13_LchAdditive.j1 kj7 a0 a1 t163 t165 true)) else (culletlaw13_LchAdditive.j1 kj7 a0 a1 t163 t165 true)) else (culletlaw13_LchAdditive.j1 kj7 a0 a1 t163 t165 true)) else (culletlaw13_LchAdditive.j1 kj7 a0 a1 t163 t165 true)) = some r := H
          have A20 := Aside0.mk A200
          clear A200
          have HC21 := Aside0.mk H
          clear H
          go_upto_region 9 with (first | ((with_reducible refine gate_callee (f := 13) rfl ?_); refine goesL_ (some 56) rfl rfl Try.func13 (by kernel_rfl) rfl #[.int .i64 a0, .int .u16 a2] rfl (by (try simp only [List.map_toArray, List.map_cons, List.map_nil]); first | done | rfl | (simp only [List.length_drop, List.length_take]; rfl)) ?_; (with_reducible refine (lch_Vanish.calls kj7 a0 a2 t169 t170 _ A19.out).mono ?_); rintro e w' ⟨rfl, ⟨nd, rfl⟩⟩; refine ⟨_, rfl, ?_⟩) | ((with_reducible refine gate_callee (f := 13) rfl ?_); refine goesL_ (some 64) rfl rfl Try.func13 (by kernel_rfl) rfl #[.int .i64 a0, .int .u16 (Go.bits .xor .u16 a1 a2)] rfl (by (try simp only [List.map_toArray, List.map_cons, List.map_nil]); first | done | rfl | (simp only [List.length_drop, List.length_take]; rfl)) ?_; (with_reducible refine (lch_Vanish.calls kj7 a0 (Go.bits .xor .u16 a1 a2) t171 t172 _ A20.out).mono ?_); rintro e w' ⟨rfl, ⟨nd, rfl⟩⟩; refine ⟨_, rfl, ?_⟩))
          (try simp only [Act.put, List.setIfInBounds_toArray, List.set_cons_zero, List.set_cons_succ])
          go_cut [94] (fun v94 wc => ∃ (kq : Nat) (x94_20 : Bool), v94 = .bool x94_20 ∧ Aside0 (culletlaw13_LchAdditive.j1 kq a0 a1 t163 t165 x94_20 = some r) ∧ Aside0 (kq ≤ kj7) ∧ Aside0 (Kd.R (Kd.int .u16) 22 wc w.heap.size (fun _ => True) v167 t165) ∧ Aside0 (Below w.heap.size w wc))
          case first =>
            have H := HC21.out
            clear HC21
            by_cases c22 : t164 = 0
            · rw [if_pos c22] at H
              have c22b0 : (t164 == 0) = true := beq_iff_eq.mpr c22
              have c22b1 : (t164 != 0) = false := bne_eq_false_iff_eq.mpr c22
              clear c22
              (first | rw [c22b0] | (simp only [i64_w, i32_w]; rw [c22b0]) | skip)
              by_cases c23 : t166 = 0
              · rw [if_pos c23] at H
                have c23b0 : (t166 == 0) = true := beq_iff_eq.mpr c23
                have c23b1 : (t166 != 0) = false := bne_eq_false_iff_eq.mpr c23
                clear c23
                by_cases c24 : t170 = 0
                · rw [if_pos c24] at H
                  have c24b0 : (t170 == 0) = true := beq_iff_eq.mpr c24
                  have c24b1 : (t170 != 0) = false := bne_eq_false_iff_eq.mpr c24
                  clear c24
                  by_cases c25 : t172 = 0
                  · rw [if_pos c25] at H
                    have c25b0 : (t172 == 0) = true := beq_iff_eq.mpr c25
                    have c25b1 : (t172 != 0) = false := bne_eq_false_iff_eq.mpr c25
                    clear c25
                    by_cases c26 : t171 = (Go.bits .xor .u16 t163 t169)
                    · rw [if_pos c26] at H
                      have c26b0 : (t171 == (Go.bits .xor .u16 t163 t169)) = true := beq_iff_eq.mpr c26
                      have c26b1 : (t171 != (Go.bits .xor .u16 t163 t169)) = false := bne_eq_false_iff_eq.mpr c26
                      clear c26
                      have H' := Aside0.mk H
                      clear H
                      obtain ⟨Ao27, co27, eo27⟩ := Kd.R_slice HO_9.out
                      subst eo27
                      go_wp2
                      go_meet
                      case rel => exact ⟨_, (((t165.length : Int) != (wrap64 (a0 + 1)))), (by first | rfl | (simp; done) | (simp [*]; done)), H', ⟨by have := HJ7.out; first | omega | exact Nat.le_refl _⟩, ⟨by (with_reducible repeat (first | apply Kd.R_alloc | apply Kd.R_drewN | apply Kd.R_drew)); exact HO_9.out⟩, ⟨by repeat (first | (with_reducible first | exact HB.out | apply below_alloc | apply pw_below_drewN | apply below_drew1) | exact HB.out)⟩⟩
                    · rw [if_neg c26] at H
                      have c26b0 : (t171 == (Go.bits .xor .u16 t163 t169)) = false := beq_eq_false_iff_ne.mpr c26
                      have c26b1 : (t171 != (Go.bits .xor .u16 t163 t169)) = true := bne_iff_ne.mpr c26
                      have H' := Aside0.mk H
                      clear H
                      go_wp2
                      go_meet
                      case rel => exact ⟨_, (true), (by first | rfl | (simp; done) | (simp [*]; done)), H', ⟨by have := HJ7.out; first | omega | exact Nat.le_refl _⟩, ⟨by (with_reducible repeat (first | apply Kd.R_alloc | apply Kd.R_drewN | apply Kd.R_drew)); exact HO_9.out⟩, ⟨by repeat (first | (with_reducible first | exact HB.out | apply below_alloc | apply pw_below_drewN | apply below_drew1) | exact HB.out)⟩⟩
                  · rw [if_neg c25] at H
                    have c25b0 : (t172 == 0) = false := beq_eq_false_iff_ne.mpr c25
                    have c25b1 : (t172 != 0) = true := bne_iff_ne.mpr c25
                    have H' := Aside0.mk H
                    clear H
                    go_wp2
                    go_meet
                    case rel => exact ⟨_, (true), (by first | rfl | (simp; done) | (simp [*]; done)), H', ⟨by have := HJ7.out; first | omega | exact Nat.le_refl _⟩, ⟨by (with_reducible repeat (first | apply Kd.R_alloc | apply Kd.R_drewN | apply Kd.R_drew)); exact HO_9.out⟩, ⟨by repeat (first | (with_reducible first | exact HB.out | apply below_alloc | apply pw_below_drewN | apply below_drew1) | exact HB.out)⟩⟩
                · rw [if_neg c24] at H
                  have c24b0 : (t170 == 0) = false := beq_eq_false_iff_ne.mpr c24
                  have c24b1 : (t170 != 0) = true := bne_iff_ne.mpr c24
                  have H' := Aside0.mk H
                  clear H
                  go_wp2
                  go_meet
                  case rel => exact ⟨_, (true), (by first | rfl | (simp; done) | (simp [*]; done)), H', ⟨by have := HJ7.out; first | omega | exact Nat.le_refl _⟩, ⟨by (with_reducible repeat (first | apply Kd.R_alloc | apply Kd.R_drewN | apply Kd.R_drew)); exact HO_9.out⟩, ⟨by repeat (first | (with_reducible first | exact HB.out | apply below_alloc | apply pw_below_drewN | apply below_drew1) | exact HB.out)⟩⟩
              · rw [if_neg c23] at H
                have c23b0 : (t166 == 0) = false := beq_eq_false_iff_ne.mpr c23
                have c23b1 : (t166 != 0) = true := bne_iff_ne.mpr c23
                have H' := Aside0.mk H
                clear H
                go_wp2
                go_meet
                case rel => exact ⟨_, (true), (by first | rfl | (simp; done) | (simp [*]; done)), H', ⟨by have := HJ7.out; first | omega | exact Nat.le_refl _⟩, ⟨by (with_reducible repeat (first | apply Kd.R_alloc | apply Kd.R_drewN | apply Kd.R_drew)); exact HO_9.out⟩, ⟨by repeat (first | (with_reducible first | exact HB.out | apply below_alloc | apply pw_below_drewN | apply below_drew1) | exact HB.out)⟩⟩
            · rw [if_neg c22] at H
              have c22b0 : (t164 == 0) = false := beq_eq_false_iff_ne.mpr c22
              have c22b1 : (t164 != 0) = true := bne_iff_ne.mpr c22
              (first | rw [c22b0] | (simp only [i64_w, i32_w]; rw [c22b0]) | skip)
              have H' := Aside0.mk H
              clear H
              go_wp2
              go_meet
              case rel => exact ⟨_, (true), (by first | rfl | (simp; done) | (simp [*]; done)), H', ⟨by have := HJ7.out; first | omega | exact Nat.le_refl _⟩, ⟨by (with_reducible repeat (first | apply Kd.R_alloc | apply Kd.R_drewN | apply Kd.R_drew)); exact HO_9.out⟩, ⟨by repeat (first | (with_reducible first | exact HB.out | apply below_alloc | apply pw_below_drewN | apply below_drew1) | exact HB.out)⟩⟩
          case rest =>
            clear HC21
            try clear c1
            try clear c2
            try clear p2
            try clear c3
            try clear c5
            try clear p6
            try clear c11
            try clear c11b0
            try clear c12
            try clear c13
            try clear c13b0
            try clear c13b1
            try clear c14
            try clear c14b0
            try clear c14b1
            try clear c14b2
            try clear c15
            try clear c15b0
            try clear c15b1
            try clear c22
            try clear c22b0
            try clear c22b1
            try clear c23
            try clear c23b0
            try clear c23b1
            try clear c24
            try clear c24b0
            try clear c24b1
            try clear c25
            try clear c25b0
            try clear c25b1
            try clear c26
            try clear c26b0
            try clear c26b1
            try clear p2
            obtain ⟨kq, x94_20, rfl, HA, HJ20, HO_9, HB⟩ := hcut
            cases kq with
            | zero => exact absurd HA.out (by simp [culletlaw13_LchAdditive.j1])
            | succ kj20 =>
              have H := HA.out
              clear HA
              simp only [culletlaw13_LchAdditive.j1] at H
              by_cases c28 : x94_20 = true
              · subst c28
                have H1 : (some false) = some r := by rw [if_pos rfl] at H; exact H
                clear H
                have H := H1
                clear H1
                obtain rfl := Option.some.inj H
                go_wp2
                go_ret
                exact ⟨by first | rfl | (simp [errW_none, errW_some] <;> rfl) | (simp [*, errW_none, errW_some] <;> rfl), by repeat (first | (with_reducible first | exact HB.out | apply below_alloc | apply pw_below_drewN | apply below_drew1) | exact HB.out)⟩
              · replace c28 := Bool.eq_false_iff.mpr c28
                subst c28
                have H1 : (culletlaw13_LchAdditive.l0 kj20 a0 a1 t163 t165 0 a1 0) = some r := by rw [if_neg (show ¬ (false = true) by decide)] at H; exact H
                clear H
                have H := H1
                clear H1
                have H' := Aside0.mk H
                clear H
                go_wp2
                go_loopg [15, 16, 17] kj20 (fun kq v15 v16 v17 w' => ∃ (x15_3 : Int) (x16_3 : Int) (x17_3 : Int), v15 = .int .u16 x15_3 ∧ v16 = .int .u16 x16_3 ∧ v17 = .int .i64 x17_3 ∧ Aside0 (culletlaw13_LchAdditive.l0 kq a0 a1 t163 t165 x15_3 x16_3 x17_3 = some r) ∧ Aside0 (kq ≤ kj20) ∧ Aside0 (Kd.R (Kd.int .u16) 22 w' w.heap.size (fun _ => True) v167 t165) ∧ Aside0 (Below w.heap.size w w'))
                case atStart => exact ⟨(0), (a1), (0), (by first | rfl | (simp; done) | (simp [*]; done)), (by first | rfl | (simp; done) | (simp [*]; done)), (by first | rfl | (simp; done) | (simp [*]; done)), H', ⟨Nat.le_refl _⟩, ⟨by (with_reducible repeat (first | apply Kd.R_alloc | apply Kd.R_drewN | apply Kd.R_drew)); exact HO_9.out⟩, ⟨by repeat (first | (with_reducible first | exact HB.out | apply below_alloc | apply pw_below_drewN | apply below_drew1) | exact HB.out)⟩⟩
                case round =>
                  clear H'
                  try clear c1
                  try clear c2
                  try clear p2
                  try clear c3
                  try clear c5
                  try clear p6
                  try clear c11
                  try clear c11b0
                  try clear c12
                  try clear c13
                  try clear c13b0
                  try clear c13b1
                  try clear c14
                  try clear c14b0
                  try clear c14b1
                  try clear c14b2
                  try clear c15
                  try clear c15b0
                  try clear c15b1
                  try clear c22
                  try clear c22b0
                  try clear c22b1
                  try clear c23
                  try clear c23b0
                  try clear c23b1
                  try clear c24
                  try clear c24b0
                  try clear c24b1
                  try clear c25
                  try clear c25b0
                  try clear c25b1
                  try clear c26
                  try clear c26b0
                  try clear c26b1
                  try clear c28
                  try clear p2
                  try clear p6
                  obtain ⟨x15_3, x16_3, x17_3, rfl, rfl, rfl, HA, HK3, HO_9, HB⟩ := hrel
                  cases gk with
                  | zero => exact absurd HA.out (by simp [culletlaw13_LchAdditive.l0])
                  | succ k3 =>
                    have H := HA.out
                    clear HA
                    simp only [culletlaw13_LchAdditive.l0] at H
                    by_cases c29 : x17_3 ≤ a0
                    · rw [if_pos c29] at H
                      have c29b0 : decide (x17_3 ≤ a0) = true := decide_eq_true c29
                      clear c29
                      by_cases c30 : 0 ≤ x17_3
                      · rw [if_pos c30] at H
                        have c30b0 : decide (0 ≤ x17_3) = true := decide_eq_true c30
                        clear c30
                        by_cases c31 : x17_3 < (t165.length : Int)
                        · rw [if_pos c31] at H
                          have c31b0 : decide (x17_3 < (t165.length : Int)) = true := decide_eq_true c31
                          clear c31
                          replace H := Option.bind_eq_some_iff.mp H
                          obtain ⟨t174, A320, H⟩ := H
                          replace H : ((gf16_Mul.f k3 x16_3 x16_3).bind fun t175 => (culletlaw13_LchAdditive.l0 k3 a0 a1 t163 t165 (Go.bits .xor .u16 x15_3 t174) t175 (wrap64 (x17_3 + 1)))) = some r := H
                          have A32 := Aside0.mk A320
                          clear A320
                          replace H := Option.bind_eq_some_iff.mp H
                          obtain ⟨t175, A330, H⟩ := H
                          replace H : (culletlaw13_LchAdditive.l0 k3 a0 a1 t163 t165 (Go.bits .xor .u16 x15_3 t174) t175 (wrap64 (x17_3 + 1))) = some r := H
                          have A33 := Aside0.mk A330
                          clear A330
                          have H' := Aside0.mk H
                          clear H
                          obtain ⟨Ao34, co34, eo34⟩ := Kd.R_slice HO_9.out
                          subst eo34
                          have p173 : 0 ≤ (x17_3 : Int) := of_decide_eq_true (by first | (with_reducible assumption) | assumption)
                          have q173 : x17_3 < (t165.length : Int) := of_decide_eq_true (by first | (with_reducible assumption) | assumption)
                          obtain ⟨ad173, e173, hx173_0⟩ := Kd.at_int (Kd.R_reads' HO_9.out).2.2 x17_3 p173 q173
                          cases e173
                          replace p173 := eq_true p173
                          replace q173 := eq_true q173
                          go_wp2_with (first | ((with_reducible refine gate_callee (f := 15) rfl ?_); refine goesL_ (some 107) rfl rfl Try.func15 (by kernel_rfl) rfl #[.int .u16 (rd t165 x17_3), .int .u16 x16_3] rfl (by (try simp only [List.map_toArray, List.map_cons, List.map_nil]); first | done | rfl | (simp only [List.length_drop, List.length_take]; rfl)) ?_; (with_reducible refine (gf16_Mul.calls k3 (rd t165 x17_3) x16_3 t174 _ A32.out).mono ?_); rintro e w' ⟨rfl, ⟨nd, rfl⟩⟩; refine ⟨_, rfl, ?_⟩) | ((with_reducible refine gate_callee (f := 15) rfl ?_); refine goesL_ (some 111) rfl rfl Try.func15 (by kernel_rfl) rfl #[.int .u16 x16_3, .int .u16 x16_3] rfl (by (try simp only [List.map_toArray, List.map_cons, List.map_nil]); first | done | rfl | (simp only [List.length_drop, List.length_take]; rfl)) ?_; (with_reducible refine (gf16_Mul.calls k3 x16_3 x16_3 t175 _ A33.out).mono ?_); rintro e w' ⟨rfl, ⟨nd, rfl⟩⟩; refine ⟨_, rfl, ?_⟩))
                          go_roundg k3
                          case measure => have := HJ7.out; have := HJ20.out; have := HK3.out; omega
                          case rel => exact ⟨(Go.bits .xor .u16 x15_3 t174), (t175), (wrap64 (x17_3 + 1)), (by first | rfl | (simp; done) | (simp [*]; done)), (by first | rfl | (simp; done) | (simp [*]; done)), (by first | rfl | (simp; done) | (simp [*]; done)), H', ⟨by have := HJ7.out; have := HJ20.out; have := HK3.out; omega⟩, ⟨by (with_reducible repeat (first | apply Kd.R_alloc | apply Kd.R_drewN | apply Kd.R_drew)); exact HO_9.out⟩, ⟨by repeat (first | (with_reducible first | exact HB.out | apply below_alloc | apply pw_below_drewN | apply below_drew1) | exact HB.out)⟩⟩
                        · rw [if_neg c31] at H
                          exact absurd H (by simp)
                      · rw [if_neg c30] at H
                        exact absurd H (by simp)
                    · rw [if_neg c29] at H
                      have c29b0 : decide (x17_3 ≤ a0) = false := decide_eq_false c29
                      clear c29
                      by_cases c35 : x15_3 = t163
                      · rw [if_pos c35] at H
                        have c35b0 : (x15_3 == t163) = true := beq_iff_eq.mpr c35
                        have c35b1 : (x15_3 != t163) = false := bne_eq_false_iff_eq.mpr c35
                        clear c35
                        by_cases c36 : a0 = 16
                        · rw [if_pos c36] at H
                          have c36b0 : (a0 == 16) = true := beq_iff_eq.mpr c36
                          have c36b1 : (a0 != 16) = false := bne_eq_false_iff_eq.mpr c36
                          clear c36
                          obtain rfl := Option.some.inj H
                          go_wp2
                          go_ret
                          exact ⟨by first | rfl | (simp [errW_none, errW_some] <;> rfl) | (simp [*, errW_none, errW_some] <;> rfl), by repeat (first | (with_reducible first | exact HB.out | apply below_alloc | apply pw_below_drewN | apply below_drew1) | exact HB.out)⟩
                        · rw [if_neg c36] at H
                          have c36b0 : (a0 == 16) = false := beq_eq_false_iff_ne.mpr c36
                          have c36b1 : (a0 != 16) = true := bne_iff_ne.mpr c36
                          replace H := Option.bind_eq_some_iff.mp H
                          obtain ⟨⟨t176, t177⟩, A370, H⟩ := H
                          replace H : (if t177 = 0 then ((gf16_Mul.f k3 t163 t163).bind fun t178 => (some (t176 == (Go.bits .xor .u16 t178 t163)))) else (some false)) = some r := H
                          have A37 := Aside0.mk A370
                          clear A370
                          by_cases c38 : t177 = 0
                          · rw [if_pos c38] at H
                            have c38b0 : (t177 == 0) = true := beq_iff_eq.mpr c38
                            have c38b1 : (t177 != 0) = false := bne_eq_false_iff_eq.mpr c38
                            clear c38
                            replace H := Option.bind_eq_some_iff.mp H
                            obtain ⟨t178, A390, H⟩ := H
                            replace H : (some (t176 == (Go.bits .xor .u16 t178 t163))) = some r := H
                            have A39 := Aside0.mk A390
                            clear A390
                            obtain rfl := Option.some.inj H
                            go_wp2_with (first | ((with_reducible refine gate_callee (f := 13) rfl ?_); refine goesL_ (some 123) rfl rfl Try.func13 (by kernel_rfl) rfl #[.int .i64 (wrap64 (a0 + 1)), .int .u16 a1] rfl (by (try simp only [List.map_toArray, List.map_cons, List.map_nil]); first | done | rfl | (simp only [List.length_drop, List.length_take]; rfl)) ?_; (with_reducible refine (lch_Vanish.calls k3 (wrap64 (a0 + 1)) a1 t176 t177 _ A37.out).mono ?_); rintro e w' ⟨rfl, ⟨nd, rfl⟩⟩; refine ⟨_, rfl, ?_⟩) | (go_at_call 15; (with_reducible refine (gf16_Mul.calls k3 t163 t163 t178 _ A39.out).mono ?_); rintro e w' ⟨rfl, ⟨nd, rfl⟩⟩))
                            go_ret
                            exact ⟨by first | rfl | (simp [errW_none, errW_some] <;> rfl) | (simp [*, errW_none, errW_some] <;> rfl), by repeat (first | (with_reducible first | exact HB.out | apply below_alloc | apply pw_below_drewN | apply below_drew1) | exact HB.out)⟩
                          · rw [if_neg c38] at H
                            have c38b0 : (t177 == 0) = false := beq_eq_false_iff_ne.mpr c38
                            have c38b1 : (t177 != 0) = true := bne_iff_ne.mpr c38
                            obtain rfl := Option.some.inj H
                            go_wp2_with (first | ((with_reducible refine gate_callee (f := 13) rfl ?_); refine goesL_ (some 123) rfl rfl Try.func13 (by kernel_rfl) rfl #[.int .i64 (wrap64 (a0 + 1)), .int .u16 a1] rfl (by (try simp only [List.map_toArray, List.map_cons, List.map_nil]); first | done | rfl | (simp only [List.length_drop, List.length_take]; rfl)) ?_; (with_reducible refine (lch_Vanish.calls k3 (wrap64 (a0 + 1)) a1 t176 t177 _ A37.out).mono ?_); rintro e w' ⟨rfl, ⟨nd, rfl⟩⟩; refine ⟨_, rfl, ?_⟩))
                            go_ret
                            exact ⟨by first | rfl | (simp [errW_none, errW_some] <;> rfl) | (simp [*, errW_none, errW_some] <;> rfl), by repeat (first | (with_reducible first | exact HB.out | apply below_alloc | apply pw_below_drewN | apply below_drew1) | exact HB.out)⟩
                      · rw [if_neg c35] at H
                        have c35b0 : (x15_3 == t163) = false := beq_eq_false_iff_ne.mpr c35
                        have c35b1 : (x15_3 != t163) = true := bne_iff_ne.mpr c35
                        obtain rfl := Option.some.inj H
                        go_wp2
                        go_ret
                        exact ⟨by first | rfl | (simp [errW_none, errW_some] <;> rfl) | (simp [*, errW_none, errW_some] <;> rfl), by repeat (first | (with_reducible first | exact HB.out | apply below_alloc | apply pw_below_drewN | apply below_drew1) | exact HB.out)⟩
  · replace c5 := Bool.eq_false_iff.mpr c5
    subst c5
    have H1 : (some false) = some r := by rw [if_neg (show ¬ (false = true) by decide)] at H; exact H
    clear H
    have H := H1
    clear H1
    obtain rfl := Option.some.inj H
    go_enter Try.func3, Try.ntmps3
    go_wp2_with (first | ((with_reducible refine gate_callee (f := 12) rfl ?_); refine goesL_ (some 19) rfl rfl Try.func12 (by kernel_rfl) rfl #[] rfl (by (try simp only [List.map_toArray, List.map_cons, List.map_nil]); first | done | rfl | (simp only [List.length_drop, List.length_take]; rfl)) ?_; (with_reducible refine (culletlaw13_awake.calls k  false _ A4.out).mono ?_); rintro e w40 ⟨rfl, hb⟩; refine ⟨_, rfl, ?_⟩; have n0_ := Aside0.mk (below_step (by repeat (first | (with_reducible first | exact HB.out | apply below_alloc | apply pw_below_drewN | apply below_drew1) | exact HB.out)) hb); clear HB; have HB := n0_; clear n0_; (try clear hb); (try clear hb2); (try clear hk); (try clear hi)))
    go_ret
    exact ⟨by first | rfl | (simp [errW_none, errW_some] <;> rfl) | (simp [*, errW_none, errW_some] <;> rfl), by repeat (first | (with_reducible first | exact HB.out | apply below_alloc | apply pw_below_drewN | apply below_drew1) | exact HB.out)⟩

/-- THE ONE PURE STATEMENT of culletlaw13_LchAdditive: yours. -/
def culletlaw13_LchAdditive.Pure : Prop := ∀ (a0 : Int) (a1 : Int) (a2 : Int), (Lit.int .i64 a0).wf = true → (Lit.int .u16 a1).wf = true → (Lit.int .u16 a2).wf = true → ∃ k, culletlaw13_LchAdditive.f k a0 a1 a2 = some true
theorem culletlaw13_LchAdditive.walk (P : culletlaw13_LchAdditive.Pure) (a0 : Int) (a1 : Int) (a2 : Int) (w : World) (w0 : (Lit.int .i64 a0).wf = true) (w1 : (Lit.int .u16 a1).wf = true) (w2 : (Lit.int .u16 a2).wf = true) :
    Calls Try.prog 3 #[.int .i64 a0, .int .u16 a1, .int .u16 a2] w fun e w' => e = .returned (.bool true) ∧ Below w.heap.size w w' := by
  obtain ⟨k, h⟩ := P a0 a1 a2 w0 w1 w2
  refine (culletlaw13_LchAdditive.calls k a0 a1 a2 true w h).mono ?_
  rintro e w' ⟨rfl, hd⟩
  exact ⟨rfl, hd⟩

end Go.Proofs.Ytcnabolainmaeaa.PA
