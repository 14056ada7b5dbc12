-- Written by a program of this session (wip/drive.py) for this seat.
import Derived.Test.YtcbjabnnokjnpaaPAx0
import Derived.Test.YtcbjabnnokjnpaaPAx3
namespace Go.Proofs.Ytcbjabnnokjnpaa.PA
open Go.RowKit Go.Proofs.YtcbjabnnokjnpaaW.PrintWords Go.Proofs.YtcbjabnnokjnpaaW.PrintLast Go.Proofs.YtcbjabnnokjnpaaW.PrintMore
attribute [local go_sem] max2_int min2_int max_two min_two max_three min_three max_four min_four   -- for this text's walks alone
set_option linter.unusedVariables false
set_option linter.unusedSimpArgs false

/-! ### shape_Split: function 12 -/
def cpy (n : Nat) (ys : List Int) : List Int := ys.take n ++ (List.replicate n 0).drop ys.length
def shape_Split.l0 : Nat → Int → List Int → Int → List (List Int) → Int → Int → Option ((List (List Int)) × Int)
  | 0, _, _, _, _, _, _ => none
  | k + 1, x1, x3, x10, x12, x37, x38 => if x38 < x37 then (if 0 ≤ x10 then (if (x10 : Int).toNat ≤ 281474976710656 then (if 0 ≤ x38 then (if x38 < (x12.length : Int) then (if x38 < x1 then (shape_Split.l0 k x1 (x3.drop x10.toNat) x10 (x12.set (x38 : Int).toNat (cpy x10.toNat x3)) x37 (wrap64 (x38 + 1))) else (shape_Split.l0 k x1 x3 x10 (x12.set (x38 : Int).toNat (List.replicate (x10 : Int).toNat 0)) x37 (wrap64 (x38 + 1)))) else (none)) else (none)) else (none)) else (none)) else (some (x12, 0))
def shape_Split.f (k : Nat) (a0 : Int) (a1 : Int) (a2 : Int) (l3 : List Int) : Option ((List (List Int)) × Int) := (shape_Length.f k a0 a1 a2 (l3.length : Int)).bind fun bt105 => (if bt105.2 = 0 then (if (wrap64 (a1 + a2)) = 0 then (none) else (if bt105.1 > (wrap64 (Int.tdiv 67108864 (wrap64 (a1 + a2)))) then (some (([] : List (List Int)), 5)) else (if 0 ≤ (wrap64 (a1 + a2)) then (if (wrap64 (a1 + a2) : Int).toNat ≤ 11728124029610 then ((some (List.replicate (wrap64 (a1 + a2) : Int).toNat [] : List (List Int))).bind fun y107 => (shape_Split.l0 k a1 l3 bt105.1 y107 (y107.length : Int) 0)) else (none)) else (none)))) else (some (([] : List (List Int)), bt105.2)))
theorem shape_Split.mono_l : ∀ k, (∀ y0 y1 y2 y3 y4 y5, LeO (shape_Split.l0 k y0 y1 y2 y3 y4 y5) (shape_Split.l0 (k + 1) y0 y1 y2 y3 y4 y5))
  | 0 => fun _ _ _ _ _ _ r h => by simp [shape_Split.l0] at h
  | k + 1 => by
    have ih0 := shape_Split.mono_l k
    · intro y0 y1 y2 y3 y4 y5
      unfold shape_Split.l0
      repeat' first
      | (with_reducible exact ih0 _ _ _ _ _ _)
      | (with_reducible exact shape_Length.mono _ _ _ _ _)
      | (with_reducible exact LeO.refl _)
      | (with_reducible exact LeO.none _)
      | (with_reducible refine LeO.ite ?_ ?_)
      | (with_reducible refine LeO.bind ?_ (fun _ => ?_))
      | exact ih0 _ _ _ _ _ _
      | exact shape_Length.mono _ _ _ _ _
      | exact LeO.none _
      | refine LeO.ite ?_ ?_
      | refine LeO.bind ?_ (fun _ => ?_)
theorem shape_Split.mono : ∀ a0 a1 a2 a3 k, LeO (shape_Split.f k a0 a1 a2 a3) (shape_Split.f (k + 1) a0 a1 a2 a3) := by
  intro a0 a1 a2 a3 k
  have ih0 := shape_Split.mono_l k
  unfold shape_Split.f
  repeat' first
      | (with_reducible exact ih0 _ _ _ _ _ _)
      | (with_reducible exact shape_Length.mono _ _ _ _ _)
      | (with_reducible exact LeO.refl _)
      | (with_reducible exact LeO.none _)
      | (with_reducible refine LeO.ite ?_ ?_)
      | (with_reducible refine LeO.bind ?_ (fun _ => ?_))
      | exact ih0 _ _ _ _ _ _
      | exact shape_Length.mono _ _ _ _ _
      | exact LeO.none _
      | refine LeO.ite ?_ ?_
      | refine LeO.bind ?_ (fun _ => ?_)
set_option maxHeartbeats 8000000 in
set_option maxRecDepth 100000 in
theorem shape_Split.calls (k : Nat) (a0 : Int) (a1 : Int) (a2 : Int) (A3 : Option Addr) (c3 : Nat) (l3 : List Int) (r1 : List (List Int)) (r2 : Int) (w : World) (hr3 : Kd.C (Kd.int .u8) w A3 l3.length l3) (hc3 : l3.length ≤ c3) (h : shape_Split.f k a0 a1 a2 l3 = some (r1, r2)) :
    Calls Try.prog 12 #[.int .i64 a0, .int .i64 a1, .int .i64 a2, .slice A3 l3.length c3] w fun e w' => ∃ v0_ : Value, e = .returned (.tuple #[v0_, .int .i64 r2]) ∧ Kd.S (Kd.slice 5 (Kd.int .u8)) 27 w' w.heap.size (fun _ => True) v0_ r1 ∧ Below w.heap.size w w' := by
  have HR3 := Aside0.mk hr3
  have HC3 := Aside0.mk hc3
  clear hr3 hc3
  have HB := Aside0.mk (Below.refl w.heap.size w)
  have H : ((shape_Length.f k a0 a1 a2 (l3.length : Int)).bind fun bt105 => (if bt105.2 = 0 then (if (wrap64 (a1 + a2)) = 0 then (none) else (if bt105.1 > (wrap64 (Int.tdiv 67108864 (wrap64 (a1 + a2)))) then (some (([] : List (List Int)), 5)) else (if 0 ≤ (wrap64 (a1 + a2)) then (if (wrap64 (a1 + a2) : Int).toNat ≤ 11728124029610 then ((some (List.replicate (wrap64 (a1 + a2) : Int).toNat [] : List (List Int))).bind fun y107 => (shape_Split.l0 k a1 l3 bt105.1 y107 (y107.length : Int) 0)) else (none)) else (none)))) else (some (([] : List (List Int)), bt105.2)))) = some (r1, r2) := h
  clear h
  replace H := Option.bind_eq_some_iff.mp H
  obtain ⟨⟨t105, t106⟩, A50, H⟩ := H
  replace H : (if t106 = 0 then (if (wrap64 (a1 + a2)) = 0 then (none) else (if t105 > (wrap64 (Int.tdiv 67108864 (wrap64 (a1 + a2)))) then (some (([] : List (List Int)), 5)) else (if 0 ≤ (wrap64 (a1 + a2)) then (if (wrap64 (a1 + a2) : Int).toNat ≤ 11728124029610 then ((some (List.replicate (wrap64 (a1 + a2) : Int).toNat [] : List (List Int))).bind fun y107 => (shape_Split.l0 k a1 l3 t105 y107 (y107.length : Int) 0)) else (none)) else (none)))) else (some (([] : List (List Int)), t106))) = some (r1, r2) := H
  have A5 := Aside0.mk A50
  clear A50
  by_cases c6 : t106 = 0
  · rw [if_pos c6] at H
    have c6b0 : (t106 == 0) = true := beq_iff_eq.mpr c6
    have c6b1 : (t106 != 0) = false := bne_eq_false_iff_eq.mpr c6
    clear c6
    by_cases c7 : (wrap64 (a1 + a2)) = 0
    · rw [if_pos c7] at H
      exact absurd H (by simp)
    · rw [if_neg c7] at H
      have c7b0 : ((wrap64 (a1 + a2)) == 0) = false := beq_eq_false_iff_ne.mpr c7
      have c7b1 : ((wrap64 (a1 + a2)) != 0) = true := bne_iff_ne.mpr c7
      by_cases c8 : t105 > (wrap64 (Int.tdiv 67108864 (wrap64 (a1 + a2))))
      · rw [if_pos c8] at H
        have c8b0 : decide ((wrap64 (Int.tdiv 67108864 (wrap64 (a1 + a2)))) < t105) = true := decide_eq_true c8
        clear c8
        simp only [Option.some.injEq, Prod.mk.injEq] at H
        obtain ⟨rfl, rfl⟩ := H
        go_enter Try.func12, Try.ntmps12
        go_wp2_with (first | ((with_reducible refine gate_callee (f := 15) rfl ?_); refine goesL_ (some 20) rfl rfl Try.func15 (by kernel_rfl) rfl #[.int .i64 a0, .int .i64 a1, .int .i64 a2, .int .i64 (l3.length : Int)] rfl (by (try simp only [List.map_toArray, List.map_cons, List.map_nil]); first | done | rfl | (simp only [List.length_drop, List.length_take]; rfl)) ?_; (with_reducible refine (shape_Length.calls k a0 a1 a2 (l3.length : Int) t105 t106 _ A5.out).mono ?_); rintro e w' ⟨rfl, ⟨nd, rfl⟩⟩; refine ⟨_, rfl, ?_⟩))
        go_ret2
        exact ⟨_, by first | rfl | (simp [errW_none, errW_some] <;> rfl) | (simp [*, errW_none, errW_some] <;> rfl), by first | exact Kd.S_nil _ _ _ _ _ | exact Kd.N_nil _ _ _ _ _ | exact Kd.V_nil _ _ _ _ _ | exact Kd.Q_nil _ _ _ _ _ | exact Kd.R_nil _ _ _ _ _, by repeat (first | (with_reducible first | exact HB.out | apply below_alloc | apply pw_below_drewN | apply below_drew1) | exact HB.out)⟩
      · rw [if_neg c8] at H
        have c8b0 : decide ((wrap64 (Int.tdiv 67108864 (wrap64 (a1 + a2)))) < t105) = false := decide_eq_false c8
        clear c8
        obtain ⟨ji9, hji9⟩ : ∃ j_ : Int, (wrap64 (a1 + a2)) = j_ := ⟨_, rfl⟩
        replace H : (if 0 ≤ (ji9) then (if (ji9 : Int).toNat ≤ 11728124029610 then ((some (List.replicate (ji9 : Int).toNat [] : List (List Int))).bind fun y107 => (shape_Split.l0 k a1 l3 t105 y107 (y107.length : Int) 0)) else (none)) else (none)) = some (r1, r2) := by first | (rw [hji9] at H; exact H) | (simp only [hji9] at H ⊢; exact H)
        (try rw [hji9] at c7b0)
        (try rw [hji9] at c7b1)
        (try rw [hji9] at c8b0)
        (try rw [hji9] at A5)
        have hji9w : (IntKind.i64.wrap (a1 + a2)) = ji9 := (i64_w _).trans hji9
        by_cases c10 : 0 ≤ (ji9)
        · rw [if_pos c10] at H
          have c10b0 := eq_true c10
          have c10b1 : decide (0 ≤ (ji9)) = true := decide_eq_true c10
          clear c10
          by_cases c11 : (ji9 : Int).toNat ≤ 11728124029610
          · rw [if_pos c11] at H
            have c11b0 := eq_true c11
            have c11b1 : decide ((ji9 : Int).toNat ≤ 11728124029610) = true := decide_eq_true c11
            clear c11
            obtain ⟨y107, hy107⟩ : ∃ y_ : List (List Int), y_ = (List.replicate (ji9 : Int).toNat []) := ⟨_, rfl⟩
            replace H : (shape_Split.l0 k a1 l3 t105 y107 (y107.length : Int) 0) = some (r1, r2) := by first | (rw [hy107]; with_reducible exact H) | (have H2_ := (Option.bind_some _ _).symm.trans H; rw [hy107]; with_reducible exact H2_) | (have H2_ := (Option.bind_some _ _).symm.trans H; with_reducible exact H2_) | with_reducible exact H | (rw [hy107]; exact H) | exact H
            have Ny107 := Aside0.mk hy107
            clear hy107
            have H' := Aside0.mk H
            clear H
            go_enter Try.func12, Try.ntmps12
            go_wp2_with (first | ((with_reducible refine gate_callee (f := 15) rfl ?_); refine goesL_ (some 20) rfl rfl Try.func15 (by kernel_rfl) rfl #[.int .i64 a0, .int .i64 a1, .int .i64 a2, .int .i64 (l3.length : Int)] rfl (by (try simp only [List.map_toArray, List.map_cons, List.map_nil]); first | done | rfl | (simp only [List.length_drop, List.length_take]; rfl)) ?_; (with_reducible refine (shape_Length.calls k a0 a1 a2 (l3.length : Int) t105 t106 _ A5.out).mono ?_); rintro e w' ⟨rfl, ⟨nd, rfl⟩⟩; refine ⟨_, rfl, ?_⟩) | ((with_reducible refine gate_dst (N := 35) rfl ?_); refine Kd.S_make (Kd.slice 5 (Kd.int .u8)) _ 27 rfl (N := 35) rfl 22 _ _ rfl ji9 rfl rfl Try.underlying22 (.slice none 0 0) 24 info27 rfl (by decide) (by omega) [] (ok := fun _ => True) (okp := fun _ => True) ⟨_, rfl, Kd.R_nil _ _ _ _ _⟩ (fun _ hk => hk) trivial (of_decide_eq_true (by first | (with_reducible assumption) | assumption)) (Nat.le_trans (Nat.mul_le_mul_right _ (of_decide_eq_true (by first | (with_reducible assumption) | assumption) : ji9.toNat ≤ 11728124029610)) (by omega)) (Below.refl _ _) (Nat.le_refl _) ?_; intro v108 w12 ho13 hb hg_ hnew_; clear hg_ hnew_; (first | rw [← Ny107.out] at ho13 | (simp only [Int.reduceToNat] at ho13; rw [← Ny107.out] at ho13)); have n0_ := Aside0.mk (Kd.S_lower ho13 (below_size (by repeat (first | (with_reducible first | exact HB.out | apply below_alloc | apply pw_below_drewN | apply below_drew1) | exact HB.out)))); have n1_ := Aside0.mk (below_step (by repeat (first | (with_reducible first | exact HB.out | apply below_alloc | apply pw_below_drewN | apply below_drew1) | exact HB.out)) hb); clear HB; have HO109 := n0_; have HB := n1_; clear n0_ n1_; clear hb ho13; obtain ⟨Ao14, co14, eo14⟩ := Kd.S_slice HO109.out; subst eo14))
            go_loopg [3, 38] k (fun kq v3 v38 w' => ∃ (x12_1 : List (List Int)) (x38_1 : Int) (x3_1 : List Int) (A3_1 : Option Addr) (c3_1 : Nat), v38 = .int .i64 x38_1 ∧ v3 = .slice A3_1 x3_1.length c3_1 ∧ Aside0 (Kd.C (Kd.int .u8) w A3_1 x3_1.length x3_1) ∧ Aside0 (x3_1.length ≤ c3_1) ∧ Aside0 (shape_Split.l0 kq a1 x3_1 t105 x12_1 (y107.length : Int) x38_1 = some (r1, r2)) ∧ Aside0 (kq ≤ k) ∧ Aside0 (Kd.S (Kd.slice 5 (Kd.int .u8)) 27 w' w.heap.size (fun _ => True) (.slice Ao14 y107.length co14) x12_1) ∧ Aside0 (Below w.heap.size w w'))
            case atStart => exact ⟨(y107), (0), l3, A3, c3, (by first | rfl | (simp; done) | (simp [*]; done)), rfl, HR3, HC3, H', ⟨Nat.le_refl _⟩, ⟨by (with_reducible repeat (first | apply Kd.S_alloc | apply Kd.S_drewN | apply Kd.S_drew)); exact HO109.out⟩, ⟨by repeat (first | (with_reducible first | exact HB.out | apply below_alloc | apply pw_below_drewN | apply below_drew1) | exact HB.out)⟩⟩
            case round =>
              clear H'
              try clear c1
              try clear p2
              try clear c3
              try clear c6
              try clear c6b0
              try clear c6b1
              try clear p6
              try clear c7
              try clear c7b0
              try clear c7b1
              try clear c8
              try clear c8b0
              try clear c10
              try clear c10b0
              try clear c10b1
              try clear c11
              try clear c11b0
              try clear c11b1
              try clear c12
              obtain ⟨x12_1, x38_1, x3_1, A3_1, c3_1, rfl, rfl, HR3_1, HC3_1, HA, HK1, HO_12, HB⟩ := hrel
              have hl12_1 := (Kd.S_reads' HO_12.out).1
              rw [hl12_1] at HO_12
              (try simp only [hl12_1])
              cases gk with
              | zero => exact absurd HA.out (by simp [shape_Split.l0])
              | succ k1 =>
                have H := HA.out
                clear HA
                simp only [shape_Split.l0] at H
                by_cases c15 : x38_1 < (y107.length : Int)
                · rw [if_pos c15] at H
                  have c15b0 : decide (x38_1 < (y107.length : Int)) = true := decide_eq_true c15
                  clear c15
                  by_cases c16 : 0 ≤ t105
                  · rw [if_pos c16] at H
                    have c16b0 := eq_true c16
                    have c16b1 : decide (0 ≤ t105) = true := decide_eq_true c16
                    clear c16
                    by_cases c17 : (t105 : Int).toNat ≤ 281474976710656
                    · rw [if_pos c17] at H
                      have c17b0 := eq_true c17
                      have c17b1 : decide ((t105 : Int).toNat ≤ 281474976710656) = true := decide_eq_true c17
                      clear c17
                      obtain ⟨y110, hy110⟩ : ∃ y_ : List Int, y_ = (List.replicate (t105 : Int).toNat 0) := ⟨_, rfl⟩
                      simp only [← hy110] at H
                      have Ny110 := Aside0.mk hy110
                      clear hy110
                      by_cases c18 : 0 ≤ x38_1
                      · rw [if_pos c18] at H
                        have c18b0 : decide (0 ≤ x38_1) = true := decide_eq_true c18
                        clear c18
                        by_cases c19 : x38_1 < (x12_1.length : Int)
                        · rw [if_pos c19] at H
                          have c19b0 : decide (x38_1 < (x12_1.length : Int)) = true := decide_eq_true c19
                          clear c19
                          obtain ⟨y113, hy113⟩ : ∃ y_ : List (List Int), y_ = (x12_1.set (x38_1 : Int).toNat y110) := ⟨_, rfl⟩
                          simp only [← hy113] at H
                          have Ny113 := Aside0.mk hy113
                          clear hy113
                          by_cases c21 : x38_1 < a1
                          · rw [if_pos c21] at H
                            have c21b0 : decide (x38_1 < a1) = true := decide_eq_true c21
                            clear c21
                            have H' := Aside0.mk H
                            clear H
                            have HY110 := Aside0.mk (show y110.length = t105.toNat from by rw [Ny110.out, List.length_replicate])
                            have HGET := Aside0.mk (show y113.getD (x38_1 : Int).toNat [] = y110 from by rw [Ny113.out]; have h0_ : 0 ≤ x38_1 := (of_decide_eq_true (by first | (with_reducible assumption) | assumption)); have h1_ : x38_1 < (x12_1.length : Int) := (of_decide_eq_true (by first | (with_reducible assumption) | assumption)); rw [List.getD_eq_getElem?_getD, List.getElem?_set_self (by omega)]; rfl)
                            obtain ⟨mm9, hmm9⟩ : ∃ mm_ : Nat, mm_ = min x3_1.length y110.length := ⟨_, rfl⟩
                            have HMM9 := Aside0.mk hmm9
                            clear hmm9
                            obtain ⟨A9, hA9⟩ : ∃ A_ : Option Addr, A_ = (if c3_1 = (mm9 : Int).toNat then A3_1 else A3_1.map (·.add ((mm9 : Int).toNat * 1))) := ⟨_, rfl⟩
                            have hcut9 : ∀ W_ : World, (Instr.slice 27 (.slice A3_1 x3_1.length c3_1) (some (.int .i64 (mm9 : Int))) none none).run Try.prog W_ = .ok (.slice A9 (x3_1.length - mm9) (c3_1 - mm9)) W_ := by
                              intro W_
                              obtain ⟨i5_, hi5_, hs5_⟩ := Option.map_eq_some_iff.1 info5
                              simp only [Prod.mk.injEq] at hs5_
                              have h_ := cut_from (P := Try.prog) 27 5 .i64 Try.underlying27 hi5_ 1 hs5_.2.1 A3_1 x3_1.length c3_1 (mm9 : Int) (Int.natCast_nonneg _) (by have := HMM9.out; omega) W_
                              rw [← hA9] at h_
                              simpa using h_
                            have HC9 := Aside0.mk (show Kd.C (Kd.int .u8) w A9 (x3_1.drop t105.toNat).length (x3_1.drop t105.toNat) ∧ x3_1.length - mm9 = (x3_1.drop t105.toNat).length ∧ (x3_1.drop t105.toNat).length ≤ c3_1 - mm9 from by
                              have e0_ : x3_1.drop t105.toNat = x3_1.drop mm9 := by
                                rcases Nat.le_total t105.toNat x3_1.length with h_ | h_
                                · rw [show mm9 = t105.toNat from by have := HMM9.out; have := HY110.out; omega]
                                · rw [List.drop_eq_nil_of_le h_, List.drop_eq_nil_of_le (by have := HMM9.out; have := HY110.out; omega)]
                              rw [e0_]
                              have hle_ : mm9 ≤ x3_1.length := by have := HMM9.out; omega
                              have h_ := Kd.C_drop (k := Kd.int .u8) HR3_1.out hle_ HC3_1.out
                              rw [hA9]
                              refine ⟨by simpa [show ((Kd.int .u8) : Kd Int).sz = 1 from rfl] using h_, by rw [List.length_drop], by rw [List.length_drop]; have := HC3_1.out; omega⟩)
                            clear hA9
                            go_wp2_with (first | ((with_reducible refine gate_dst (N := 44) rfl ?_); refine Kd.R_make (Kd.int .u8) _ 5 rfl (N := 44) rfl 27 _ _ rfl t105 rfl rfl Try.underlying27 (.int .u8 0) 1 info5 rfl (by decide) (by omega) 0 (ok := fun _ => True) (okp := fun _ => True) rfl (fun _ hk => hk) trivial (of_decide_eq_true (by first | (with_reducible assumption) | assumption)) (Nat.le_trans (Nat.mul_le_mul_right _ (of_decide_eq_true (by first | (with_reducible assumption) | assumption) : t105.toNat ≤ 281474976710656)) (by omega)) (Below.refl _ _) (Nat.le_refl _) ?_; intro v111 w22 ho23 hb hg_ hnew_; clear hg_ hnew_; (first | rw [← Ny110.out] at ho23 | (simp only [Int.reduceToNat] at ho23; rw [← Ny110.out] at ho23)); have n0_ := Aside0.mk (Kd.S_elder' (by (with_reducible repeat (first | apply Kd.S_alloc | apply Kd.S_drewN | apply Kd.S_drew)); exact HO_12.out) (Kd.R_base ho23) hb); have n1_ := Aside0.mk (Kd.R_lower ho23 (below_size (by repeat (first | (with_reducible first | exact HB.out | apply below_alloc | apply pw_below_drewN | apply below_drew1) | exact HB.out)))); have n2_ := Aside0.mk (below_step (by repeat (first | (with_reducible first | exact HB.out | apply below_alloc | apply pw_below_drewN | apply below_drew1) | exact HB.out)) hb); clear HO_12; clear HB; have HO_12 := n0_; have HO112 := n1_; have HB := n2_; clear n0_ n1_ n2_; clear hb ho23; obtain ⟨Ao112, co112, eo112⟩ := Kd.R_slice HO112.out; subst eo112; have p20 : 0 ≤ (x38_1 : Int) := of_decide_eq_true (by first | (with_reducible assumption) | assumption); have q20 : (x38_1 : Int) < ((x12_1.length : Int) : Int) := of_decide_eq_true (by first | (with_reducible assumption) | assumption); obtain ⟨go20, co20, eo20, gb20, gl20, cl20, HG20⟩ := Kd.S_form HO_12.out (by omega); (first | cases eo20 | (injection eo20 with ea_ en_ ec_; (first | subst ea_ | (injection ea_ with ea_; subst ea_)); subst ec_; clear en_)); have GB20 := Aside0.mk gb20; have GG20 := Aside0.mk HG20; clear gb20 gl20 HG20; obtain ⟨_, ce20, hcl20, hM20, hcc20, hfr20, _, _⟩ := Kd.S_elem HO_12.out [] (x38_1 : Int) p20 q20; obtain ⟨ve20_0, rfl, ge20_0⟩ := hM20; have hx20_0 := hcc20 0 _ rfl; have hf20_0 := hfr20 0; (try simp only [show ((Kd.slice 5 (Kd.int .u8))).sz = 1 from rfl, Nat.mul_one, Nat.add_zero] at hx20_0); (try simp only [show ((Kd.slice 5 (Kd.int .u8))).sz = 1 from rfl, Nat.mul_one, Nat.add_zero] at hf20_0); clear hcl20 hcc20 hfr20; (try clear hM20); replace p20 := eq_true p20; replace q20 := eq_true q20; have n_ := Aside0.mk (Kd.S_mono (ok' := (fun k_ => some k_ ≠ ((.slice Ao112 y110.length co112) : Value).ownBlock)) HO_12.out (fun k_ hk => hk.2)); clear HO_12; have HO_12 := n_; clear n_; have HX24 := Aside0.mk (show Kd.S (Kd.slice 5 (Kd.int .u8)) 27 w22 w.heap.size (fun k_ => ((fun _ => True)) k_ ∧ ¬ ((fun k_ => some k_ = ((.slice Ao112 y110.length co112) : Value).ownBlock)) k_) (.slice (some ⟨go20, 0, none⟩) x12_1.length co14) x12_1 from (by (with_reducible repeat (first | apply Kd.S_alloc | apply Kd.S_drewN | apply Kd.S_drew)); exact Kd.S_mono HO_12.out (fun k_ hk => ⟨trivial, fun e_ => hk e_⟩))); obtain ⟨oki24, ce24, hcl24, hM24, hcc24, hfr24, hoki24, hH24⟩ := Kd.S_elem HX24.out [] (x38_1 : Int) (of_decide_eq_true (by first | (with_reducible assumption) | assumption)) (by have h_ : (x38_1 : Int) < ((x12_1.length : Int) : Int) := of_decide_eq_true (by first | (with_reducible assumption) | assumption); first | exact h_ | (have e_ := (Kd.S_reads' HO_12.out).1; omega) | simpa using h_); obtain ⟨ve24_0, rfl, ge24_0⟩ := hM24; have HP24 := Kd.S_seg hH24 (of_decide_eq_true (by first | (with_reducible assumption) | assumption)) (by have h_ : (x38_1 : Int) < ((x12_1.length : Int) : Int) := of_decide_eq_true (by first | (with_reducible assumption) | assumption); first | exact h_ | (have e_ := (Kd.S_reads' HO_12.out).1; omega) | simpa using h_) (seg := [(.slice Ao112 y110.length co112)]) (j := 0) (show 1 ≤ 1 from by decide) (x' := y110) (Kd.M_row (Kd.R_mono (Kd.R_tight rfl (Kd.R_mono (ok' := fun k_ => ((fun _ => True)) k_ ∧ k_ ≠ go20) (Kd.R_apart' (HO112.out) (Kd.S_typed HO_12.out) (by decide)) (fun k_ hk => ⟨trivial, fun e_ => (hk.2) (by rw [e_]; rfl)⟩))) (fun _ h_ => Or.inr (h_)))) (fun _ hk => hk) (fun k_ hk_ => ((Kd.R_mono (ok' := fun k_ => ((fun _ => True)) k_ ∧ k_ ≠ go20) (Kd.R_apart' (HO112.out) (Kd.S_typed HO_12.out) (by decide)) (fun k_ hk => ⟨trivial, fun e_ => (hk.2) (by rw [e_]; rfl)⟩))).1 k_ hk_.symm); have hx24_0 := hcc24 0 _ rfl; (try simp only [show ((Kd.slice 5 (Kd.int .u8))).sz = 1 from rfl, Nat.mul_one, Nat.add_zero] at hx24_0); have hf24_0 := hfr24 0; (try simp only [show ((Kd.slice 5 (Kd.int .u8))).sz = 1 from rfl, Nat.mul_one, Nat.add_zero] at hf24_0); clear hcl24 hcc24 hfr24 hoki24 hH24; (try clear hM24); (try simp only [show ((Kd.slice 5 (Kd.int .u8))).sz = 1 from rfl, Nat.mul_one, Nat.add_zero] at HP24)) | ((with_reducible refine gate_store (t := 27) (p := 45) rfl ?_); refine store_event (t := 27) (p := 45) (v := ?vo_w25) (w1 := (w22.setCell ⟨go20, (x38_1 : Int).toNat, none⟩ (.slice Ao112 y110.length co112))) ?hg ?ho ?hn ?hr ?_; (case ho => rfl); (case hg => rfl); (case hn => rfl); (case hr => first | (go_simp; done) | (go_simp; rfl)); intro w25 hw; have hg : w22.grownBy w25 (some go20) := (by rw [hw]; exact HP24.2); have hp_ : Kd.S (Kd.slice 5 (Kd.int .u8)) 27 w25 w.heap.size (fun _ => True) (.slice (some ⟨go20, 0, none⟩) x12_1.length co14) y113 := (by rw [hw, Ny113.out]; exact HP24.1); clear HP24; have n0_ := Aside0.mk (hp_); have n1_ := Aside0.mk ((by rw [hw]; exact below_set (HB.out) GB20.out : Below w.heap.size w w25)); clear HO_12; clear HB; clear HO112; have HO_12 := n0_; have HB := n1_; clear n0_ n1_; clear hg hw hp_; obtain ⟨oki9, ce9, hcl9, hM9, hcc9, hok9, hbk9⟩ := Kd.S_borrow HO_12.out [] (x38_1 : Int) (of_decide_eq_true (by first | (with_reducible assumption) | assumption)) (of_decide_eq_true (by first | (with_reducible assumption) | assumption)); obtain ⟨ve9, rfl, ge9⟩ := hM9; have hx9 := hcc9 0 _ rfl; clear hcl9 hcc9; simp only [show ((Kd.slice 5 (Kd.int .u8))).sz = 1 from rfl, Nat.mul_one, Nat.add_zero, add_plain] at hx9; rw [HGET.out] at ge9; obtain ⟨Ae9, cc9, rfl⟩ := Kd.R_slice ge9; have GE9 := Aside0.mk ge9; have HBK9 := Aside0.mk (@hbk9); clear ge9 hbk9 hok9) | ((with_reducible refine gate_builtin (b := .copy) (xs := #[.tmp 53, .tmp 54]) rfl ?_); refine Go.Proofs.YtcbjabnnokjnpaaW.Copy.R_copy rfl (.tmp 53) (.tmp 54) 27 27 5 rfl Try.underlying27 (size_of_info info5) _ y110 x3_1 _ _ _ _ mm9 _ rfl rfl HMM9.out GE9.out (Kd.C_below HR3_1.out HB.out) ?_; intro w29 hr29 hg29; have n0_ := Aside0.mk (HBK9.out hg29 (fun k_ e_ => GE9.out.1 k_ e_) (Kd.M_row hr29)); have n1_ := Aside0.mk (pw_below_grown HB.out _ (below_size HB.out) hg29 (Kd.R_base GE9.out)); clear HO_12; clear HB; have HO_12 := n0_; have HB := n1_; clear n0_ n1_ hr29 hg29 hx9 HBK9 GE9))
                            (try simp only [← hl12_1])
                            go_roundg k1
                            case measure => have := HK1.out; omega
                            case rel => exact ⟨x12_1.set (x38_1 : Int).toNat (cpy t105.toNat x3_1), (wrap64 (x38_1 + 1)), x3_1.drop t105.toNat, A9, c3_1 - mm9, (by first | rfl | (simp; done) | (simp [*]; done)), (by rw [← HC9.out.2.1]), ⟨HC9.out.1⟩, ⟨HC9.out.2.2⟩, H', ⟨by have := HK1.out; omega⟩, ⟨by (try simp only [hl12_1]); have h_ := HO_12.out; rw [Ny113.out, List.set_set, HY110.out, Ny110.out] at h_; exact h_⟩, ⟨by repeat (first | (with_reducible first | exact HB.out | apply below_alloc | apply pw_below_drewN | apply below_drew1) | exact HB.out)⟩⟩
                          · rw [if_neg c21] at H
                            have c21b0 : decide (x38_1 < a1) = false := decide_eq_false c21
                            clear c21
                            have H' := Aside0.mk H
                            clear H
                            go_wp2_with (first | ((with_reducible refine gate_dst (N := 44) rfl ?_); refine Kd.R_make (Kd.int .u8) _ 5 rfl (N := 44) rfl 27 _ _ rfl t105 rfl rfl Try.underlying27 (.int .u8 0) 1 info5 rfl (by decide) (by omega) 0 (ok := fun _ => True) (okp := fun _ => True) rfl (fun _ hk => hk) trivial (of_decide_eq_true (by first | (with_reducible assumption) | assumption)) (Nat.le_trans (Nat.mul_le_mul_right _ (of_decide_eq_true (by first | (with_reducible assumption) | assumption) : t105.toNat ≤ 281474976710656)) (by omega)) (Below.refl _ _) (Nat.le_refl _) ?_; intro v111 w26 ho27 hb hg_ hnew_; clear hg_ hnew_; (first | rw [← Ny110.out] at ho27 | (simp only [Int.reduceToNat] at ho27; rw [← Ny110.out] at ho27)); have n0_ := Aside0.mk (Kd.S_elder' (by (with_reducible repeat (first | apply Kd.S_alloc | apply Kd.S_drewN | apply Kd.S_drew)); exact HO_12.out) (Kd.R_base ho27) hb); have n1_ := Aside0.mk (Kd.R_lower ho27 (below_size (by repeat (first | (with_reducible first | exact HB.out | apply below_alloc | apply pw_below_drewN | apply below_drew1) | exact HB.out)))); have n2_ := Aside0.mk (below_step (by repeat (first | (with_reducible first | exact HB.out | apply below_alloc | apply pw_below_drewN | apply below_drew1) | exact HB.out)) hb); clear HO_12; clear HB; have HO_12 := n0_; have HO112 := n1_; have HB := n2_; clear n0_ n1_ n2_; clear hb ho27; obtain ⟨Ao112, co112, eo112⟩ := Kd.R_slice HO112.out; subst eo112; have p20 : 0 ≤ (x38_1 : Int) := of_decide_eq_true (by first | (with_reducible assumption) | assumption); have q20 : (x38_1 : Int) < ((x12_1.length : Int) : Int) := of_decide_eq_true (by first | (with_reducible assumption) | assumption); obtain ⟨go20, co20, eo20, gb20, gl20, cl20, HG20⟩ := Kd.S_form HO_12.out (by omega); (first | cases eo20 | (injection eo20 with ea_ en_ ec_; (first | subst ea_ | (injection ea_ with ea_; subst ea_)); subst ec_; clear en_)); have GB20 := Aside0.mk gb20; have GG20 := Aside0.mk HG20; clear gb20 gl20 HG20; obtain ⟨_, ce20, hcl20, hM20, hcc20, hfr20, _, _⟩ := Kd.S_elem HO_12.out [] (x38_1 : Int) p20 q20; obtain ⟨ve20_0, rfl, ge20_0⟩ := hM20; have hx20_0 := hcc20 0 _ rfl; have hf20_0 := hfr20 0; (try simp only [show ((Kd.slice 5 (Kd.int .u8))).sz = 1 from rfl, Nat.mul_one, Nat.add_zero] at hx20_0); (try simp only [show ((Kd.slice 5 (Kd.int .u8))).sz = 1 from rfl, Nat.mul_one, Nat.add_zero] at hf20_0); clear hcl20 hcc20 hfr20; (try clear hM20); replace p20 := eq_true p20; replace q20 := eq_true q20; have n_ := Aside0.mk (Kd.S_mono (ok' := (fun k_ => some k_ ≠ ((.slice Ao112 y110.length co112) : Value).ownBlock)) HO_12.out (fun k_ hk => hk.2)); clear HO_12; have HO_12 := n_; clear n_; have HX28 := Aside0.mk (show Kd.S (Kd.slice 5 (Kd.int .u8)) 27 w26 w.heap.size (fun k_ => ((fun _ => True)) k_ ∧ ¬ ((fun k_ => some k_ = ((.slice Ao112 y110.length co112) : Value).ownBlock)) k_) (.slice (some ⟨go20, 0, none⟩) x12_1.length co14) x12_1 from (by (with_reducible repeat (first | apply Kd.S_alloc | apply Kd.S_drewN | apply Kd.S_drew)); exact Kd.S_mono HO_12.out (fun k_ hk => ⟨trivial, fun e_ => hk e_⟩))); obtain ⟨oki28, ce28, hcl28, hM28, hcc28, hfr28, hoki28, hH28⟩ := Kd.S_elem HX28.out [] (x38_1 : Int) (of_decide_eq_true (by first | (with_reducible assumption) | assumption)) (by have h_ : (x38_1 : Int) < ((x12_1.length : Int) : Int) := of_decide_eq_true (by first | (with_reducible assumption) | assumption); first | exact h_ | (have e_ := (Kd.S_reads' HO_12.out).1; omega) | simpa using h_); obtain ⟨ve28_0, rfl, ge28_0⟩ := hM28; have HP28 := Kd.S_seg hH28 (of_decide_eq_true (by first | (with_reducible assumption) | assumption)) (by have h_ : (x38_1 : Int) < ((x12_1.length : Int) : Int) := of_decide_eq_true (by first | (with_reducible assumption) | assumption); first | exact h_ | (have e_ := (Kd.S_reads' HO_12.out).1; omega) | simpa using h_) (seg := [(.slice Ao112 y110.length co112)]) (j := 0) (show 1 ≤ 1 from by decide) (x' := y110) (Kd.M_row (Kd.R_mono (Kd.R_tight rfl (Kd.R_mono (ok' := fun k_ => ((fun _ => True)) k_ ∧ k_ ≠ go20) (Kd.R_apart' (HO112.out) (Kd.S_typed HO_12.out) (by decide)) (fun k_ hk => ⟨trivial, fun e_ => (hk.2) (by rw [e_]; rfl)⟩))) (fun _ h_ => Or.inr (h_)))) (fun _ hk => hk) (fun k_ hk_ => ((Kd.R_mono (ok' := fun k_ => ((fun _ => True)) k_ ∧ k_ ≠ go20) (Kd.R_apart' (HO112.out) (Kd.S_typed HO_12.out) (by decide)) (fun k_ hk => ⟨trivial, fun e_ => (hk.2) (by rw [e_]; rfl)⟩))).1 k_ hk_.symm); have hx28_0 := hcc28 0 _ rfl; (try simp only [show ((Kd.slice 5 (Kd.int .u8))).sz = 1 from rfl, Nat.mul_one, Nat.add_zero] at hx28_0); have hf28_0 := hfr28 0; (try simp only [show ((Kd.slice 5 (Kd.int .u8))).sz = 1 from rfl, Nat.mul_one, Nat.add_zero] at hf28_0); clear hcl28 hcc28 hfr28 hoki28 hH28; (try clear hM28); (try simp only [show ((Kd.slice 5 (Kd.int .u8))).sz = 1 from rfl, Nat.mul_one, Nat.add_zero] at HP28)) | ((with_reducible refine gate_store (t := 27) (p := 45) rfl ?_); refine store_event (t := 27) (p := 45) (v := ?vo_w29) (w1 := (w26.setCell ⟨go20, (x38_1 : Int).toNat, none⟩ (.slice Ao112 y110.length co112))) ?hg ?ho ?hn ?hr ?_; (case ho => rfl); (case hg => rfl); (case hn => rfl); (case hr => first | (go_simp; done) | (go_simp; rfl)); intro w29 hw; have hg : w26.grownBy w29 (some go20) := (by rw [hw]; exact HP28.2); have hp_ : Kd.S (Kd.slice 5 (Kd.int .u8)) 27 w29 w.heap.size (fun _ => True) (.slice (some ⟨go20, 0, none⟩) x12_1.length co14) y113 := (by rw [hw, Ny113.out]; exact HP28.1); clear HP28; have n0_ := Aside0.mk (hp_); have n1_ := Aside0.mk ((by rw [hw]; exact below_set (HB.out) GB20.out : Below w.heap.size w w29)); clear HO_12; clear HB; clear HO112; have HO_12 := n0_; have HB := n1_; clear n0_ n1_; clear hg hw hp_))
                            (try simp only [← hl12_1])
                            go_roundg k1
                            case measure => have := HK1.out; omega
                            case rel => exact ⟨(y113), (wrap64 (x38_1 + 1)), x3_1, A3_1, c3_1, (by first | rfl | (simp; done) | (simp [*]; done)), rfl, HR3_1, HC3_1, H', ⟨by have := HK1.out; omega⟩, ⟨by (try simp only [hl12_1]); (with_reducible repeat (first | apply Kd.S_alloc | apply Kd.S_drewN | apply Kd.S_drew)); exact HO_12.out⟩, ⟨by repeat (first | (with_reducible first | exact HB.out | apply below_alloc | apply pw_below_drewN | apply below_drew1) | exact HB.out)⟩⟩
                        · rw [if_neg c19] at H
                          exact absurd H (by simp)
                      · rw [if_neg c18] at H
                        exact absurd H (by simp)
                    · rw [if_neg c17] at H
                      exact absurd H (by simp)
                  · rw [if_neg c16] at H
                    exact absurd H (by simp)
                · rw [if_neg c15] at H
                  have c15b0 : decide (x38_1 < (y107.length : Int)) = false := decide_eq_false c15
                  clear c15
                  rw [hl12_1] at c15b0
                  simp only [Option.some.injEq, Prod.mk.injEq] at H
                  obtain ⟨rfl, rfl⟩ := H
                  go_wp2
                  go_ret2
                  exact ⟨_, by first | rfl | (simp [errW_none, errW_some] <;> rfl) | (simp only [← hji9]; first | rfl | (simp [errW_none, errW_some] <;> rfl)) | (simp [*, errW_none, errW_some] <;> rfl), by (with_reducible repeat (first | apply Kd.S_alloc | apply Kd.S_drewN | apply Kd.S_drew)); exact HO_12.out, by repeat (first | (with_reducible first | exact HB.out | apply below_alloc | apply pw_below_drewN | apply below_drew1) | exact HB.out)⟩
          · rw [if_neg c11] at H
            exact absurd H (by simp)
        · rw [if_neg c10] at H
          exact absurd H (by simp)
  · rw [if_neg c6] at H
    have c6b0 : (t106 == 0) = false := beq_eq_false_iff_ne.mpr c6
    have c6b1 : (t106 != 0) = true := bne_iff_ne.mpr c6
    simp only [Option.some.injEq, Prod.mk.injEq] at H
    obtain ⟨rfl, rfl⟩ := H
    go_enter Try.func12, Try.ntmps12
    go_wp2_with (first | ((with_reducible refine gate_callee (f := 15) rfl ?_); refine goesL_ (some 20) rfl rfl Try.func15 (by kernel_rfl) rfl #[.int .i64 a0, .int .i64 a1, .int .i64 a2, .int .i64 (l3.length : Int)] rfl (by (try simp only [List.map_toArray, List.map_cons, List.map_nil]); first | done | rfl | (simp only [List.length_drop, List.length_take]; rfl)) ?_; (with_reducible refine (shape_Length.calls k a0 a1 a2 (l3.length : Int) t105 t106 _ A5.out).mono ?_); rintro e w' ⟨rfl, ⟨nd, rfl⟩⟩; refine ⟨_, rfl, ?_⟩))
    go_ret2
    exact ⟨_, by first | rfl | (simp [errW_none, errW_some] <;> rfl) | (simp [*, errW_none, errW_some] <;> rfl), by first | exact Kd.S_nil _ _ _ _ _ | exact Kd.N_nil _ _ _ _ _ | exact Kd.V_nil _ _ _ _ _ | exact Kd.Q_nil _ _ _ _ _ | exact Kd.R_nil _ _ _ _ _, by repeat (first | (with_reducible first | exact HB.out | apply below_alloc | apply pw_below_drewN | apply below_drew1) | exact HB.out)⟩


end Go.Proofs.Ytcbjabnnokjnpaa.PA
