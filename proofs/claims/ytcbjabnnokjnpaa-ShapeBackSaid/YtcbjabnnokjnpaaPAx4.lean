-- Written by a program of this session (wip/drive.py, merge.py) for this seat.
import Derived.Test.YtcbjabnnokjnpaaPAx0
import Derived.Test.YtcbjabnnokjnpaaPAx3
namespace Go.Proofs.Ytcbjabnnokjnpaa.PA
open Go.RowKit Go.Proofs.YtcbjabnnokjnpaaW.PrintWords Go.Proofs.YtcbjabnnokjnpaaW.PrintLast Go.Proofs.YtcbjabnnokjnpaaW.PrintMore
attribute [local go_sem] max2_int min2_int max_two min_two max_three min_three max_four min_four   -- for this text's walks alone
set_option linter.unusedVariables false
set_option linter.unusedSimpArgs false

/-! ### shape_Join: function 18 -/
def shape_Join.l0 : Nat → Int → List Int → List (List Int) → Int → Int → Option (List Int × Int)
  | 0, _, _, _, _, _ => none
  | k + 1, x4, x16, x63, x64, x65 => if x65 < x64 then (if 0 ≤ x65 then (if x65 < (x63.length : Int) then (if 0 ≤ (mn ((rd_L2 x63 x65).length : Int) (wrap64 (x4 - (x16.length : Int)))) then (if (mn ((rd_L2 x63 x65).length : Int) (wrap64 (x4 - (x16.length : Int)))) ≤ ((rd_L2 x63 x65).length : Int) then (if x16.length + ((rd_L2 x63 x65).take ((mn ((rd_L2 x63 x65).length : Int) (wrap64 (x4 - (x16.length : Int)))) : Int).toNat).length < 140737488355328 then (shape_Join.l0 k x4 (x16 ++ ((rd_L2 x63 x65).take ((mn ((rd_L2 x63 x65).length : Int) (wrap64 (x4 - (x16.length : Int)))) : Int).toNat)) x63 x64 (wrap64 (x65 + 1))) else (none)) else (none)) else (none)) else (none)) else (none)) else (some (x16, 0))
def shape_Join.f (k : Nat) (a0 : Int) (a1 : Int) (a2 : Int) (l3 : List (List Int)) (a4 : Int) : Option (List Int × Int) := (shape_Params.f k a0 a1 a2).bind fun t171 => (if t171 = 0 then (if (l3.length : Int) < a1 then (some (([] : List Int), 160)) else (if 0 ≤ a1 then (if a1 ≤ (l3.length : Int) then ((shape_lengths.f k (l3.take (a1 : Int).toNat)).bind fun bt176 => (if (bt176.2.1.length : Int) > 0 then (some (([] : List Int), 161)) else (if bt176.2.2 = true then ((shape_odd.f a0 bt176.1).bind fun t181 => (if t181 = true then (some (([] : List Int), 8)) else (if a4 < 0 then (some (([] : List Int), 164)) else (if a4 > (wrap64 (a1 * bt176.1)) then (some (([] : List Int), 164)) else (if 0 ≤ a4 then (if (a4 : Int).toNat ≤ 281474976710656 then ((some (l3.take (a1 : Int).toNat : List (List Int))).bind fun y185 => (shape_Join.l0 k a4 (([] : List Int)) y185 (y185.length : Int) 0)) else (none)) else (none)))))) else (some (([] : List Int), 162))))) else (none)) else (none))) else (some (([] : List Int), t171)))
theorem shape_Join.mono_l : ∀ k, (∀ y0 y1 y2 y3 y4, LeO (shape_Join.l0 k y0 y1 y2 y3 y4) (shape_Join.l0 (k + 1) y0 y1 y2 y3 y4))
  | 0 => fun _ _ _ _ _ r h => by simp [shape_Join.l0] at h
  | k + 1 => by
    have ih0 := shape_Join.mono_l k
    · intro y0 y1 y2 y3 y4
      unfold shape_Join.l0
      repeat' first
      | (with_reducible exact ih0 _ _ _ _ _)
      | (with_reducible exact shape_Params.mono _ _ _ _)
      | (with_reducible exact shape_lengths.mono _ _)
      | (with_reducible exact LeO.refl _)
      | (with_reducible exact LeO.none _)
      | (with_reducible refine LeO.ite ?_ ?_)
      | (with_reducible refine LeO.bind ?_ (fun _ => ?_))
      | exact ih0 _ _ _ _ _
      | exact shape_Params.mono _ _ _ _
      | exact shape_lengths.mono _ _
      | exact LeO.none _
      | refine LeO.ite ?_ ?_
      | refine LeO.bind ?_ (fun _ => ?_)
theorem shape_Join.mono : ∀ a0 a1 a2 a3 a4 k, LeO (shape_Join.f k a0 a1 a2 a3 a4) (shape_Join.f (k + 1) a0 a1 a2 a3 a4) := by
  intro a0 a1 a2 a3 a4 k
  have ih0 := shape_Join.mono_l k
  unfold shape_Join.f
  repeat' first
      | (with_reducible exact ih0 _ _ _ _ _)
      | (with_reducible exact shape_Params.mono _ _ _ _)
      | (with_reducible exact shape_lengths.mono _ _)
      | (with_reducible exact LeO.refl _)
      | (with_reducible exact LeO.none _)
      | (with_reducible refine LeO.ite ?_ ?_)
      | (with_reducible refine LeO.bind ?_ (fun _ => ?_))
      | exact ih0 _ _ _ _ _
      | exact shape_Params.mono _ _ _ _
      | exact shape_lengths.mono _ _
      | exact LeO.none _
      | refine LeO.ite ?_ ?_
      | refine LeO.bind ?_ (fun _ => ?_)
set_option maxHeartbeats 8000000 in
set_option maxRecDepth 100000 in
theorem shape_Join.calls (k : Nat) (a0 : Int) (a1 : Int) (a2 : Int) (A3 : Option Addr) (c3 : Nat) (l3 : List (List Int)) (a4 : Int) (r1 : List Int) (r2 : Int) (w : World) (hr3 : Kd.C (Kd.slice 5 (Kd.int .u8)) w A3 l3.length l3) (hc3 : l3.length ≤ c3) (h : shape_Join.f k a0 a1 a2 l3 a4 = some (r1, r2)) :
    Calls Try.prog 18 #[.int .i64 a0, .int .i64 a1, .int .i64 a2, .slice A3 l3.length c3, .int .i64 a4] w fun e w' => ∃ v0_ : Value, e = .returned (.tuple #[v0_, .int .i64 r2]) ∧ Kd.R (Kd.int .u8) 5 w' w.heap.size (fun _ => True) v0_ r1 ∧ Below w.heap.size w w' := by
  have HR3 := Z0.mk hr3
  have HC3 := Z0.mk hc3
  clear hr3 hc3
  have HB := Z0.mk (Below.refl w.heap.size w)
  have H : ((shape_Params.f k a0 a1 a2).bind fun t171 => (if t171 = 0 then (if (l3.length : Int) < a1 then (some (([] : List Int), 160)) else (if 0 ≤ a1 then (if a1 ≤ (l3.length : Int) then ((shape_lengths.f k (l3.take (a1 : Int).toNat)).bind fun bt176 => (if (bt176.2.1.length : Int) > 0 then (some (([] : List Int), 161)) else (if bt176.2.2 = true then ((shape_odd.f a0 bt176.1).bind fun t181 => (if t181 = true then (some (([] : List Int), 8)) else (if a4 < 0 then (some (([] : List Int), 164)) else (if a4 > (wrap64 (a1 * bt176.1)) then (some (([] : List Int), 164)) else (if 0 ≤ a4 then (if (a4 : Int).toNat ≤ 281474976710656 then ((some (l3.take (a1 : Int).toNat : List (List Int))).bind fun y185 => (shape_Join.l0 k a4 (([] : List Int)) y185 (y185.length : Int) 0)) else (none)) else (none)))))) else (some (([] : List Int), 162))))) else (none)) else (none))) else (some (([] : List Int), t171)))) = some (r1, r2) := h
  clear h
  replace H := Option.bind_eq_some_iff.mp H
  obtain ⟨t171, A60, H⟩ := H
  try dsimp only at H
  have A6 := Z0.mk A60
  clear A60
  by_cases c7 : t171 = 0
  · rw [if_pos c7] at H
    have c7b0 : (t171 == 0) = true := beq_iff_eq.mpr c7
    have c7b1 : (t171 != 0) = false := bne_eq_false_iff_eq.mpr c7
    clear c7
    by_cases c8 : (l3.length : Int) < a1
    · rw [if_pos c8] at H
      have c8b0 : decide ((l3.length : Int) < a1) = true := decide_eq_true c8
      clear c8
      simp only [Option.some.injEq, Prod.mk.injEq] at H
      obtain ⟨rfl, rfl⟩ := H
      go_enter Try.func18, Try.ntmps18
      go_wp2_with (first | ((with_reducible refine gate_callee (f := 14) rfl ?_); refine goesL_ (some 22) rfl rfl Try.func14 (by kernel_rfl) rfl #[.int .i64 a0, .int .i64 a1, .int .i64 a2] rfl (by (try simp only [List.map_toArray, List.map_cons, List.map_nil]); first | done | rfl | (simp only [List.length_drop, List.length_take]; rfl)) ?_; (with_reducible refine (shape_Params.calls k a0 a1 a2 t171 _ A6.out).mono ?_); rintro e w' ⟨rfl, ⟨nd, rfl⟩⟩; refine ⟨_, rfl, ?_⟩))
      go_ret2
      exact ⟨_, by first | rfl | (simp [ewN, ewS] <;> rfl) | (simp [*, ewN, ewS] <;> rfl), by first | exact Kd.R_nil _ _ _ _ _ | exact Kd.N_nil _ _ _ _ _ | exact Kd.V_nil _ _ _ _ _ | exact Kd.Q_nil _ _ _ _ _ | exact Kd.S_nil _ _ _ _ _, by repeat (first | (with_reducible first | exact HB.out | apply bwA | apply bwN | apply bw1) | exact HB.out)⟩
    · rw [if_neg c8] at H
      have c8b0 : decide ((l3.length : Int) < a1) = false := decide_eq_false c8
      clear c8
      by_cases c9 : 0 ≤ a1
      · rw [if_pos c9] at H
        have c9b0 := eq_true c9
        have c9b1 : decide (0 ≤ a1) = true := decide_eq_true c9
        clear c9
        by_cases c10 : a1 ≤ (l3.length : Int)
        · rw [if_pos c10] at H
          have c10b0 := eq_true c10
          have c10b1 : decide (a1 ≤ (l3.length : Int)) = true := decide_eq_true c10
          clear c10
          obtain ⟨y172, hy172⟩ : ∃ y_ : List (List Int), y_ = (l3.take (a1 : Int).toNat) := ⟨_, rfl⟩
          replace H : ((shape_lengths.f k y172).bind fun bt176 => (if (bt176.2.1.length : Int) > 0 then (some (([] : List Int), 161)) else (if bt176.2.2 = true then ((shape_odd.f a0 bt176.1).bind fun t181 => (if t181 = true then (some (([] : List Int), 8)) else (if a4 < 0 then (some (([] : List Int), 164)) else (if a4 > (wrap64 (a1 * bt176.1)) then (some (([] : List Int), 164)) else (if 0 ≤ a4 then (if (a4 : Int).toNat ≤ 281474976710656 then ((some (l3.take (a1 : Int).toNat : List (List Int))).bind fun y185 => (shape_Join.l0 k a4 (([] : List Int)) y185 (y185.length : Int) 0)) else (none)) else (none)))))) else (some (([] : List Int), 162))))) = some (r1, r2) := by first | (rw [hy172]; with_reducible exact H) | (have H2_ := (Option.bind_some _ _).symm.trans H; rw [hy172]; with_reducible exact H2_) | (have H2_ := (Option.bind_some _ _).symm.trans H; with_reducible exact H2_) | with_reducible exact H | (rw [hy172]; exact H) | exact H
          have Ny172 := Z0.mk hy172
          clear hy172
          replace H := Option.bind_eq_some_iff.mp H
          obtain ⟨⟨t176, t177, t178⟩, A110, H⟩ := H
          dsimp only at H
          have A11 := Z0.mk A110
          clear A110
          by_cases c12 : (t177.length : Int) > 0
          · rw [if_pos c12] at H
            have c12b0 : decide (0 < (t177.length : Int)) = true := decide_eq_true c12
            have c12b1 : decide (0 < t177.length) = true := decide_eq_true (by omega)
            clear c12
            simp only [Option.some.injEq, Prod.mk.injEq] at H
            obtain ⟨rfl, rfl⟩ := H
            go_enter Try.func18, Try.ntmps18
            go_wp2_with (first | ((with_reducible refine gate_callee (f := 14) rfl ?_); refine goesL_ (some 22) rfl rfl Try.func14 (by kernel_rfl) rfl #[.int .i64 a0, .int .i64 a1, .int .i64 a2] rfl (by (try simp only [List.map_toArray, List.map_cons, List.map_nil]); first | done | rfl | (simp only [List.length_drop, List.length_take]; rfl)) ?_; (with_reducible refine (shape_Params.calls k a0 a1 a2 t171 _ A6.out).mono ?_); rintro e w' ⟨rfl, ⟨nd, rfl⟩⟩; refine ⟨_, rfl, ?_⟩; have q13 : (a1 : Int) ≤ ((l3.length : Int) : Int) := of_decide_eq_true (by first | (with_reducible assumption) | assumption); obtain ⟨i013, hi013, _, hsz13, _⟩ := info_parts info27; have hroom13 : l3.length ≤ c3 := HC3.out; have hC13 : Kd.C (Kd.slice 5 (Kd.int .u8)) _ A3 l3.length l3 := HR3.out; have hcut13 := cut_to (P := Try.prog) 22 27 .i64 Try.underlying22 hi013 A3 l3.length c3 a1 (of_decide_eq_true (by first | (with_reducible assumption) | assumption)) q13 hroom13; have hr13 := Kd.C_take (m := (a1 : Int).toNat) hC13 (by omega); have hy13 : y172.length = (a1 : Int).toNat := (by rw [Ny172.out, List.length_take]; omega); rw [← Ny172.out] at hr13; rw [← hy13] at hcut13; have HR175 := Z0.mk hr13; have HC175 := Z0.mk (show y172.length ≤ c3 from by omega); clear hr13 hC13 hroom13 hi013 hsz13; have KY13 := Z0.mk hy13; clear hy13; replace q13 := eq_true q13) | ((with_reducible refine gate_callee (f := 34) rfl ?_); refine goesL_ (some 34) rfl rfl Try.func34 (by kernel_rfl) rfl #[.slice A3 y172.length c3] rfl (by (try simp only [List.map_toArray, List.map_cons, List.map_nil]); first | done | rfl | (simp only [List.length_drop, List.length_take]; rfl)) ?_; (with_reducible refine (shape_lengths.calls k _ _ y172 t176 t177 t178 _ ?side1 ?side2 A11.out).mono ?_); (case side1 => repeat (first | exact HR175.out | (with_reducible refine Kd.C_alloc ?_ _) | (with_reducible refine Kd.C_drewN ?_ _) | (with_reducible refine Kd.C_drew ?_))); (case side2 => exact HC175.out); rintro e w14 ⟨v179, rfl, ho0, hb⟩; refine ⟨_, rfl, ?_⟩; have n0_ := Z0.mk (Kd.R_lower ho0 (bwZ (by repeat (first | (with_reducible first | exact HB.out | apply bwA | apply bwN | apply bw1) | exact HB.out)))); have n1_ := Z0.mk (bwT (by repeat (first | (with_reducible first | exact HB.out | apply bwA | apply bwN | apply bw1) | exact HB.out)) hb); clear HB; have HO180 := n0_; have HB := n1_; clear n0_ n1_; (try clear hb); (try clear hb2); (try clear hk); (try clear hi); (try clear ho0); obtain ⟨Ao15, co15, eo15⟩ := Kd.R_slice HO180.out; subst eo15))
            go_ret2
            exact ⟨_, by first | rfl | (simp [ewN, ewS] <;> rfl) | (simp [*, ewN, ewS] <;> rfl), by first | exact Kd.R_nil _ _ _ _ _ | exact Kd.N_nil _ _ _ _ _ | exact Kd.V_nil _ _ _ _ _ | exact Kd.Q_nil _ _ _ _ _ | exact Kd.S_nil _ _ _ _ _, by repeat (first | (with_reducible first | exact HB.out | apply bwA | apply bwN | apply bw1) | exact HB.out)⟩
          · rw [if_neg c12] at H
            have c12b0 : decide (0 < (t177.length : Int)) = false := decide_eq_false c12
            have c12b1 : decide (0 < t177.length) = false := decide_eq_false (by omega)
            clear c12
            by_cases c16 : t178 = true
            · subst c16
              have H1 : ((shape_odd.f a0 t176).bind fun t181 => (if t181 = true then (some (([] : List Int), 8)) else (if a4 < 0 then (some (([] : List Int), 164)) else (if a4 > (wrap64 (a1 * t176)) then (some (([] : List Int), 164)) else (if 0 ≤ a4 then (if (a4 : Int).toNat ≤ 281474976710656 then ((some (l3.take (a1 : Int).toNat : List (List Int))).bind fun y185 => (shape_Join.l0 k a4 (([] : List Int)) y185 (y185.length : Int) 0)) else (none)) else (none)))))) = some (r1, r2) := by rw [if_pos rfl] at H; exact H
              clear H
              have H := H1
              clear H1
              replace H := Option.bind_eq_some_iff.mp H
              obtain ⟨t181, A170, H⟩ := H
              try dsimp only at H
              have A17 := Z0.mk A170
              clear A170
              by_cases c18 : t181 = true
              · subst c18
                have H1 : (some (([] : List Int), 8)) = some (r1, r2) := by rw [if_pos rfl] at H; exact H
                clear H
                have H := H1
                clear H1
                simp only [Option.some.injEq, Prod.mk.injEq] at H
                obtain ⟨rfl, rfl⟩ := H
                go_enter Try.func18, Try.ntmps18
                go_wp2_with (first | ((with_reducible refine gate_callee (f := 14) rfl ?_); refine goesL_ (some 22) rfl rfl Try.func14 (by kernel_rfl) rfl #[.int .i64 a0, .int .i64 a1, .int .i64 a2] rfl (by (try simp only [List.map_toArray, List.map_cons, List.map_nil]); first | done | rfl | (simp only [List.length_drop, List.length_take]; rfl)) ?_; (with_reducible refine (shape_Params.calls k a0 a1 a2 t171 _ A6.out).mono ?_); rintro e w' ⟨rfl, ⟨nd, rfl⟩⟩; refine ⟨_, rfl, ?_⟩; have q19 : (a1 : Int) ≤ ((l3.length : Int) : Int) := of_decide_eq_true (by first | (with_reducible assumption) | assumption); obtain ⟨i019, hi019, _, hsz19, _⟩ := info_parts info27; have hroom19 : l3.length ≤ c3 := HC3.out; have hC19 : Kd.C (Kd.slice 5 (Kd.int .u8)) _ A3 l3.length l3 := HR3.out; (try clear hcut13); have hcut19 := cut_to (P := Try.prog) 22 27 .i64 Try.underlying22 hi019 A3 l3.length c3 a1 (of_decide_eq_true (by first | (with_reducible assumption) | assumption)) q19 hroom19; have hr19 := Kd.C_take (m := (a1 : Int).toNat) hC19 (by omega); have hy19 : y172.length = (a1 : Int).toNat := (by rw [Ny172.out, List.length_take]; omega); rw [← Ny172.out] at hr19; rw [← hy19] at hcut19; have HR175 := Z0.mk hr19; have HC175 := Z0.mk (show y172.length ≤ c3 from by omega); clear hr19 hC19 hroom19 hi019 hsz19; have KY19 := Z0.mk hy19; clear hy19; replace q19 := eq_true q19) | ((with_reducible refine gate_callee (f := 34) rfl ?_); refine goesL_ (some 34) rfl rfl Try.func34 (by kernel_rfl) rfl #[.slice A3 y172.length c3] rfl (by (try simp only [List.map_toArray, List.map_cons, List.map_nil]); first | done | rfl | (simp only [List.length_drop, List.length_take]; rfl)) ?_; (with_reducible refine (shape_lengths.calls k _ _ y172 t176 t177 true _ ?side1 ?side2 A11.out).mono ?_); (case side1 => repeat (first | exact HR175.out | (with_reducible refine Kd.C_alloc ?_ _) | (with_reducible refine Kd.C_drewN ?_ _) | (with_reducible refine Kd.C_drew ?_))); (case side2 => exact HC175.out); rintro e w20 ⟨v179, rfl, ho0, hb⟩; refine ⟨_, rfl, ?_⟩; have n0_ := Z0.mk (Kd.R_lower ho0 (bwZ (by repeat (first | (with_reducible first | exact HB.out | apply bwA | apply bwN | apply bw1) | exact HB.out)))); have n1_ := Z0.mk (bwT (by repeat (first | (with_reducible first | exact HB.out | apply bwA | apply bwN | apply bw1) | exact HB.out)) hb); clear HB; have HO180 := n0_; have HB := n1_; clear n0_ n1_; (try clear hb); (try clear hb2); (try clear hk); (try clear hi); (try clear ho0); obtain ⟨Ao21, co21, eo21⟩ := Kd.R_slice HO180.out; subst eo21) | ((with_reducible refine gate_callee (f := 30) rfl ?_); refine goesL_ (some 48) rfl rfl Try.func30 (by kernel_rfl) rfl #[.int .i64 a0, .int .i64 t176] rfl (by (try simp only [List.map_toArray, List.map_cons, List.map_nil]); first | done | rfl | (simp only [List.length_drop, List.length_take]; rfl)) ?_; (with_reducible refine (shape_odd.calls a0 t176 true _ A17.out).mono ?_); rintro e w' ⟨rfl, ⟨nd, rfl⟩⟩; refine ⟨_, rfl, ?_⟩))
                go_ret2
                exact ⟨_, by first | rfl | (simp [ewN, ewS] <;> rfl) | (simp [*, ewN, ewS] <;> rfl), by first | exact Kd.R_nil _ _ _ _ _ | exact Kd.N_nil _ _ _ _ _ | exact Kd.V_nil _ _ _ _ _ | exact Kd.Q_nil _ _ _ _ _ | exact Kd.S_nil _ _ _ _ _, by repeat (first | (with_reducible first | exact HB.out | apply bwA | apply bwN | apply bw1) | exact HB.out)⟩
              · replace c18 := Bool.eq_false_iff.mpr c18
                subst c18
                have H1 : (if a4 < 0 then (some (([] : List Int), 164)) else (if a4 > (wrap64 (a1 * t176)) then (some (([] : List Int), 164)) else (if 0 ≤ a4 then (if (a4 : Int).toNat ≤ 281474976710656 then ((some (l3.take (a1 : Int).toNat : List (List Int))).bind fun y185 => (shape_Join.l0 k a4 (([] : List Int)) y185 (y185.length : Int) 0)) else (none)) else (none)))) = some (r1, r2) := by rw [if_neg (show ¬ (false = true) by decide)] at H; exact H
                clear H
                have H := H1
                clear H1
                by_cases c22 : a4 < 0
                · rw [if_pos c22] at H
                  have c22b0 : decide (a4 < 0) = true := decide_eq_true c22
                  clear c22
                  simp only [Option.some.injEq, Prod.mk.injEq] at H
                  obtain ⟨rfl, rfl⟩ := H
                  go_enter Try.func18, Try.ntmps18
                  go_wp2_with (first | ((with_reducible refine gate_callee (f := 14) rfl ?_); refine goesL_ (some 22) rfl rfl Try.func14 (by kernel_rfl) rfl #[.int .i64 a0, .int .i64 a1, .int .i64 a2] rfl (by (try simp only [List.map_toArray, List.map_cons, List.map_nil]); first | done | rfl | (simp only [List.length_drop, List.length_take]; rfl)) ?_; (with_reducible refine (shape_Params.calls k a0 a1 a2 t171 _ A6.out).mono ?_); rintro e w' ⟨rfl, ⟨nd, rfl⟩⟩; refine ⟨_, rfl, ?_⟩; have q23 : (a1 : Int) ≤ ((l3.length : Int) : Int) := of_decide_eq_true (by first | (with_reducible assumption) | assumption); obtain ⟨i023, hi023, _, hsz23, _⟩ := info_parts info27; have hroom23 : l3.length ≤ c3 := HC3.out; have hC23 : Kd.C (Kd.slice 5 (Kd.int .u8)) _ A3 l3.length l3 := HR3.out; (try clear hcut19); have hcut23 := cut_to (P := Try.prog) 22 27 .i64 Try.underlying22 hi023 A3 l3.length c3 a1 (of_decide_eq_true (by first | (with_reducible assumption) | assumption)) q23 hroom23; have hr23 := Kd.C_take (m := (a1 : Int).toNat) hC23 (by omega); have hy23 : y172.length = (a1 : Int).toNat := (by rw [Ny172.out, List.length_take]; omega); rw [← Ny172.out] at hr23; rw [← hy23] at hcut23; have HR175 := Z0.mk hr23; have HC175 := Z0.mk (show y172.length ≤ c3 from by omega); clear hr23 hC23 hroom23 hi023 hsz23; have KY23 := Z0.mk hy23; clear hy23; replace q23 := eq_true q23) | ((with_reducible refine gate_callee (f := 34) rfl ?_); refine goesL_ (some 34) rfl rfl Try.func34 (by kernel_rfl) rfl #[.slice A3 y172.length c3] rfl (by (try simp only [List.map_toArray, List.map_cons, List.map_nil]); first | done | rfl | (simp only [List.length_drop, List.length_take]; rfl)) ?_; (with_reducible refine (shape_lengths.calls k _ _ y172 t176 t177 true _ ?side1 ?side2 A11.out).mono ?_); (case side1 => repeat (first | exact HR175.out | (with_reducible refine Kd.C_alloc ?_ _) | (with_reducible refine Kd.C_drewN ?_ _) | (with_reducible refine Kd.C_drew ?_))); (case side2 => exact HC175.out); rintro e w24 ⟨v179, rfl, ho0, hb⟩; refine ⟨_, rfl, ?_⟩; have n0_ := Z0.mk (Kd.R_lower ho0 (bwZ (by repeat (first | (with_reducible first | exact HB.out | apply bwA | apply bwN | apply bw1) | exact HB.out)))); have n1_ := Z0.mk (bwT (by repeat (first | (with_reducible first | exact HB.out | apply bwA | apply bwN | apply bw1) | exact HB.out)) hb); clear HB; have HO180 := n0_; have HB := n1_; clear n0_ n1_; (try clear hb); (try clear hb2); (try clear hk); (try clear hi); (try clear ho0); obtain ⟨Ao25, co25, eo25⟩ := Kd.R_slice HO180.out; subst eo25) | ((with_reducible refine gate_callee (f := 30) rfl ?_); refine goesL_ (some 48) rfl rfl Try.func30 (by kernel_rfl) rfl #[.int .i64 a0, .int .i64 t176] rfl (by (try simp only [List.map_toArray, List.map_cons, List.map_nil]); first | done | rfl | (simp only [List.length_drop, List.length_take]; rfl)) ?_; (with_reducible refine (shape_odd.calls a0 t176 false _ A17.out).mono ?_); rintro e w' ⟨rfl, ⟨nd, rfl⟩⟩; refine ⟨_, rfl, ?_⟩))
                  go_ret2
                  exact ⟨_, by first | rfl | (simp [ewN, ewS] <;> rfl) | (simp [*, ewN, ewS] <;> rfl), by first | exact Kd.R_nil _ _ _ _ _ | exact Kd.N_nil _ _ _ _ _ | exact Kd.V_nil _ _ _ _ _ | exact Kd.Q_nil _ _ _ _ _ | exact Kd.S_nil _ _ _ _ _, by repeat (first | (with_reducible first | exact HB.out | apply bwA | apply bwN | apply bw1) | exact HB.out)⟩
                · rw [if_neg c22] at H
                  have c22b0 : decide (a4 < 0) = false := decide_eq_false c22
                  clear c22
                  by_cases c26 : a4 > (wrap64 (a1 * t176))
                  · rw [if_pos c26] at H
                    have c26b0 : decide ((wrap64 (a1 * t176)) < a4) = true := decide_eq_true c26
                    clear c26
                    simp only [Option.some.injEq, Prod.mk.injEq] at H
                    obtain ⟨rfl, rfl⟩ := H
                    go_enter Try.func18, Try.ntmps18
                    go_wp2_with (first | ((with_reducible refine gate_callee (f := 14) rfl ?_); refine goesL_ (some 22) rfl rfl Try.func14 (by kernel_rfl) rfl #[.int .i64 a0, .int .i64 a1, .int .i64 a2] rfl (by (try simp only [List.map_toArray, List.map_cons, List.map_nil]); first | done | rfl | (simp only [List.length_drop, List.length_take]; rfl)) ?_; (with_reducible refine (shape_Params.calls k a0 a1 a2 t171 _ A6.out).mono ?_); rintro e w' ⟨rfl, ⟨nd, rfl⟩⟩; refine ⟨_, rfl, ?_⟩; have q27 : (a1 : Int) ≤ ((l3.length : Int) : Int) := of_decide_eq_true (by first | (with_reducible assumption) | assumption); obtain ⟨i027, hi027, _, hsz27, _⟩ := info_parts info27; have hroom27 : l3.length ≤ c3 := HC3.out; have hC27 : Kd.C (Kd.slice 5 (Kd.int .u8)) _ A3 l3.length l3 := HR3.out; (try clear hcut23); have hcut27 := cut_to (P := Try.prog) 22 27 .i64 Try.underlying22 hi027 A3 l3.length c3 a1 (of_decide_eq_true (by first | (with_reducible assumption) | assumption)) q27 hroom27; have hr27 := Kd.C_take (m := (a1 : Int).toNat) hC27 (by omega); have hy27 : y172.length = (a1 : Int).toNat := (by rw [Ny172.out, List.length_take]; omega); rw [← Ny172.out] at hr27; rw [← hy27] at hcut27; have HR175 := Z0.mk hr27; have HC175 := Z0.mk (show y172.length ≤ c3 from by omega); clear hr27 hC27 hroom27 hi027 hsz27; have KY27 := Z0.mk hy27; clear hy27; replace q27 := eq_true q27) | ((with_reducible refine gate_callee (f := 34) rfl ?_); refine goesL_ (some 34) rfl rfl Try.func34 (by kernel_rfl) rfl #[.slice A3 y172.length c3] rfl (by (try simp only [List.map_toArray, List.map_cons, List.map_nil]); first | done | rfl | (simp only [List.length_drop, List.length_take]; rfl)) ?_; (with_reducible refine (shape_lengths.calls k _ _ y172 t176 t177 true _ ?side1 ?side2 A11.out).mono ?_); (case side1 => repeat (first | exact HR175.out | (with_reducible refine Kd.C_alloc ?_ _) | (with_reducible refine Kd.C_drewN ?_ _) | (with_reducible refine Kd.C_drew ?_))); (case side2 => exact HC175.out); rintro e w28 ⟨v179, rfl, ho0, hb⟩; refine ⟨_, rfl, ?_⟩; have n0_ := Z0.mk (Kd.R_lower ho0 (bwZ (by repeat (first | (with_reducible first | exact HB.out | apply bwA | apply bwN | apply bw1) | exact HB.out)))); have n1_ := Z0.mk (bwT (by repeat (first | (with_reducible first | exact HB.out | apply bwA | apply bwN | apply bw1) | exact HB.out)) hb); clear HB; have HO180 := n0_; have HB := n1_; clear n0_ n1_; (try clear hb); (try clear hb2); (try clear hk); (try clear hi); (try clear ho0); obtain ⟨Ao29, co29, eo29⟩ := Kd.R_slice HO180.out; subst eo29) | ((with_reducible refine gate_callee (f := 30) rfl ?_); refine goesL_ (some 48) rfl rfl Try.func30 (by kernel_rfl) rfl #[.int .i64 a0, .int .i64 t176] rfl (by (try simp only [List.map_toArray, List.map_cons, List.map_nil]); first | done | rfl | (simp only [List.length_drop, List.length_take]; rfl)) ?_; (with_reducible refine (shape_odd.calls a0 t176 false _ A17.out).mono ?_); rintro e w' ⟨rfl, ⟨nd, rfl⟩⟩; refine ⟨_, rfl, ?_⟩))
                    go_ret2
                    exact ⟨_, by first | rfl | (simp [ewN, ewS] <;> rfl) | (simp [*, ewN, ewS] <;> rfl), by first | exact Kd.R_nil _ _ _ _ _ | exact Kd.N_nil _ _ _ _ _ | exact Kd.V_nil _ _ _ _ _ | exact Kd.Q_nil _ _ _ _ _ | exact Kd.S_nil _ _ _ _ _, by repeat (first | (with_reducible first | exact HB.out | apply bwA | apply bwN | apply bw1) | exact HB.out)⟩
                  · rw [if_neg c26] at H
                    have c26b0 : decide ((wrap64 (a1 * t176)) < a4) = false := decide_eq_false c26
                    clear c26
                    by_cases c30 : 0 ≤ a4
                    · rw [if_pos c30] at H
                      have c30b0 := eq_true c30
                      have c30b1 : decide (0 ≤ a4) = true := decide_eq_true c30
                      clear c30
                      by_cases c31 : (a4 : Int).toNat ≤ 281474976710656
                      · rw [if_pos c31] at H
                        have c31b0 := eq_true c31
                        have c31b1 : decide ((a4 : Int).toNat ≤ 281474976710656) = true := decide_eq_true c31
                        clear c31
                        obtain ⟨y182, hy182⟩ : ∃ y_ : List Int, y_ = (([] : List Int)) := ⟨_, rfl⟩
                        replace H : ((some (l3.take (a1 : Int).toNat : List (List Int))).bind fun y185 => (shape_Join.l0 k a4 y182 y185 (y185.length : Int) 0)) = some (r1, r2) := by first | (rw [hy182]; with_reducible exact H) | (have H2_ := (Option.bind_some _ _).symm.trans H; rw [hy182]; with_reducible exact H2_) | (have H2_ := (Option.bind_some _ _).symm.trans H; with_reducible exact H2_) | with_reducible exact H | (rw [hy182]; exact H) | exact H
                        have Ny182 := Z0.mk hy182
                        clear hy182
                        have c32b0 := eq_true (of_decide_eq_true (by first | (with_reducible assumption) | assumption) : 0 ≤ a1)
                        have c33b0 := eq_true (of_decide_eq_true (by first | (with_reducible assumption) | assumption) : a1 ≤ (l3.length : Int))
                        obtain ⟨y185, hy185⟩ : ∃ y_ : List (List Int), y_ = (l3.take (a1 : Int).toNat) := ⟨_, rfl⟩
                        replace H : (shape_Join.l0 k a4 y182 y185 (y185.length : Int) 0) = some (r1, r2) := by first | (rw [hy185]; with_reducible exact H) | (have H2_ := (Option.bind_some _ _).symm.trans H; rw [hy185]; with_reducible exact H2_) | (have H2_ := (Option.bind_some _ _).symm.trans H; with_reducible exact H2_) | with_reducible exact H | (rw [hy185]; exact H) | exact H
                        have Ny185 := Z0.mk hy185
                        clear hy185
                        have H' := Z0.mk H
                        clear H
                        go_enter Try.func18, Try.ntmps18
                        go_wp2_with (first | ((with_reducible refine gate_callee (f := 14) rfl ?_); refine goesL_ (some 22) rfl rfl Try.func14 (by kernel_rfl) rfl #[.int .i64 a0, .int .i64 a1, .int .i64 a2] rfl (by (try simp only [List.map_toArray, List.map_cons, List.map_nil]); first | done | rfl | (simp only [List.length_drop, List.length_take]; rfl)) ?_; (with_reducible refine (shape_Params.calls k a0 a1 a2 t171 _ A6.out).mono ?_); rintro e w' ⟨rfl, ⟨nd, rfl⟩⟩; refine ⟨_, rfl, ?_⟩; have q34 : (a1 : Int) ≤ ((l3.length : Int) : Int) := of_decide_eq_true (by first | (with_reducible assumption) | assumption); obtain ⟨i034, hi034, _, hsz34, _⟩ := info_parts info27; have hroom34 : l3.length ≤ c3 := HC3.out; have hC34 : Kd.C (Kd.slice 5 (Kd.int .u8)) _ A3 l3.length l3 := HR3.out; (try clear hcut27); have hcut34 := cut_to (P := Try.prog) 22 27 .i64 Try.underlying22 hi034 A3 l3.length c3 a1 (of_decide_eq_true (by first | (with_reducible assumption) | assumption)) q34 hroom34; have hr34 := Kd.C_take (m := (a1 : Int).toNat) hC34 (by omega); have hy34 : y172.length = (a1 : Int).toNat := (by rw [Ny172.out, List.length_take]; omega); rw [← Ny172.out] at hr34; rw [← hy34] at hcut34; have HR175 := Z0.mk hr34; have HC175 := Z0.mk (show y172.length ≤ c3 from by omega); clear hr34 hC34 hroom34 hi034 hsz34; have KY34 := Z0.mk hy34; clear hy34; replace q34 := eq_true q34) | ((with_reducible refine gate_callee (f := 34) rfl ?_); refine goesL_ (some 34) rfl rfl Try.func34 (by kernel_rfl) rfl #[.slice A3 y172.length c3] rfl (by (try simp only [List.map_toArray, List.map_cons, List.map_nil]); first | done | rfl | (simp only [List.length_drop, List.length_take]; rfl)) ?_; (with_reducible refine (shape_lengths.calls k _ _ y172 t176 t177 true _ ?side1 ?side2 A11.out).mono ?_); (case side1 => repeat (first | exact HR175.out | (with_reducible refine Kd.C_alloc ?_ _) | (with_reducible refine Kd.C_drewN ?_ _) | (with_reducible refine Kd.C_drew ?_))); (case side2 => exact HC175.out); rintro e w35 ⟨v179, rfl, ho0, hb⟩; refine ⟨_, rfl, ?_⟩; have n0_ := Z0.mk (Kd.R_lower ho0 (bwZ (by repeat (first | (with_reducible first | exact HB.out | apply bwA | apply bwN | apply bw1) | exact HB.out)))); have n1_ := Z0.mk (bwT (by repeat (first | (with_reducible first | exact HB.out | apply bwA | apply bwN | apply bw1) | exact HB.out)) hb); clear HB; have HO180 := n0_; have HB := n1_; clear n0_ n1_; (try clear hb); (try clear hb2); (try clear hk); (try clear hi); (try clear ho0); obtain ⟨Ao36, co36, eo36⟩ := Kd.R_slice HO180.out; subst eo36) | ((with_reducible refine gate_callee (f := 30) rfl ?_); refine goesL_ (some 48) rfl rfl Try.func30 (by kernel_rfl) rfl #[.int .i64 a0, .int .i64 t176] rfl (by (try simp only [List.map_toArray, List.map_cons, List.map_nil]); first | done | rfl | (simp only [List.length_drop, List.length_take]; rfl)) ?_; (with_reducible refine (shape_odd.calls a0 t176 false _ A17.out).mono ?_); rintro e w' ⟨rfl, ⟨nd, rfl⟩⟩; refine ⟨_, rfl, ?_⟩) | ((with_reducible refine gate_dst (N := 60) rfl ?_); refine Go.Proofs.YtcbjabnnokjnpaaW.Copy.R_make_room (Kd.int .u8) _ 5 rfl (N := 60) rfl 27 _ _ rfl a4 rfl rfl Try.underlying27 (.int .u8 0) 1 info5 rfl (by decide) (by omega) 0 (ok := fun _ => True) (okp := fun _ => True) rfl (fun _ hk => hk) trivial (of_decide_eq_true (by first | (with_reducible assumption) | assumption)) (Nat.le_trans (Nat.mul_le_mul_right _ (of_decide_eq_true (by first | (with_reducible assumption) | assumption) : a4.toNat ≤ 281474976710656)) (by omega)) (Below.refl _ _) (Nat.le_refl _) ?_; intro v183 w37 ho38 hb hg_ hnew_; clear hg_ hnew_; (first | rw [← Ny182.out] at ho38 | (simp only [Int.reduceToNat] at ho38; rw [← Ny182.out] at ho38)); have n0_ := Z0.mk (Kd.R_below (by (with_reducible repeat (first | apply Kd.R_alloc | apply Kd.R_drewN | apply Kd.R_drew)); exact HO180.out) hb); have n1_ := Z0.mk (Kd.R_lower ho38 (bwZ (by repeat (first | (with_reducible first | exact HB.out | apply bwA | apply bwN | apply bw1) | exact HB.out)))); have n2_ := Z0.mk (bwT (by repeat (first | (with_reducible first | exact HB.out | apply bwA | apply bwN | apply bw1) | exact HB.out)) hb); clear HO180; clear HB; have HO180 := n0_; have HO184 := n1_; have HB := n2_; clear n0_ n1_ n2_; clear hb ho38; have q39 : (a1 : Int) ≤ ((l3.length : Int) : Int) := of_decide_eq_true (by first | (with_reducible assumption) | assumption); obtain ⟨i039, hi039, _, hsz39, _⟩ := info_parts info27; have hroom39 : l3.length ≤ c3 := HC3.out; have hC39 : Kd.C (Kd.slice 5 (Kd.int .u8)) _ A3 l3.length l3 := HR3.out; (try clear hcut34); have hcut39 := cut_to (P := Try.prog) 22 27 .i64 Try.underlying22 hi039 A3 l3.length c3 a1 (of_decide_eq_true (by first | (with_reducible assumption) | assumption)) q39 hroom39; have hr39 := Kd.C_take (m := (a1 : Int).toNat) hC39 (by omega); have hy39 : y185.length = (a1 : Int).toNat := (by rw [Ny185.out, List.length_take]; omega); rw [← Ny185.out] at hr39; rw [← hy39] at hcut39; have HR188 := Z0.mk hr39; have HC188 := Z0.mk (show y185.length ≤ c3 from by omega); clear hr39 hC39 hroom39 hi039 hsz39; have KY39 := Z0.mk hy39; clear hy39; replace q39 := eq_true q39))
                        go_loopg [16, 65] k (fun kq v16 v65 w' => ∃ (x16_1 : List Int) (x65_1 : Int), v65 = .int .i64 x65_1 ∧ Z0 (shape_Join.l0 kq a4 x16_1 y185 (y185.length : Int) x65_1 = some (r1, r2)) ∧ Z0 (kq ≤ k) ∧ Z0 (Kd.R (Kd.int .u8) 5 w' w.heap.size (fun _ => True) v16 x16_1) ∧ Z0 (Below w.heap.size w w'))
                        case atStart => exact ⟨(y182), (0), (by first | rfl | (simp; done) | (simp [*]; done)), H', ⟨Nat.le_refl _⟩, ⟨by (with_reducible repeat (first | apply Kd.R_alloc | apply Kd.R_drewN | apply Kd.R_drew)); exact HO184.out⟩, ⟨by repeat (first | (with_reducible first | exact HB.out | apply bwA | apply bwN | apply bw1) | exact HB.out)⟩⟩
                        case round =>
                          clear H'
                          try clear c1
                          try clear q1
                          try clear c2
                          try clear p2
                          try clear q2
                          try clear c3
                          try clear q3
                          try clear p6
                          try clear c7
                          try clear c7b0
                          try clear c7b1
                          try clear c8
                          try clear c8b0
                          try clear c9
                          try clear c9b0
                          try clear c9b1
                          try clear c10
                          try clear c10b0
                          try clear c10b1
                          try clear c12
                          try clear c12b0
                          try clear c12b1
                          try clear q13
                          try clear c14
                          try clear c16
                          try clear c18
                          try clear q19
                          try clear c22
                          try clear c22b0
                          try clear q23
                          try clear c26
                          try clear c26b0
                          try clear q27
                          try clear c30
                          try clear c30b0
                          try clear c30b1
                          try clear c31
                          try clear c31b0
                          try clear c31b1
                          try clear c32
                          try clear c32b0
                          try clear c33
                          try clear c33b0
                          try clear c34
                          try clear q34
                          try clear q39
                          try clear q13
                          try clear q19
                          try clear q23
                          try clear q27
                          try clear q34
                          try clear q39
                          obtain ⟨x16_1, x65_1, rfl, HA, HK1, HO_16, HB⟩ := hrel
                          cases gk with
                          | zero => exact absurd HA.out (by simp [shape_Join.l0])
                          | succ k1 =>
                            have H := HA.out
                            clear HA
                            simp only [shape_Join.l0] at H
                            by_cases c40 : x65_1 < (y185.length : Int)
                            · rw [if_pos c40] at H
                              have c40b0 : decide (x65_1 < (y185.length : Int)) = true := decide_eq_true c40
                              clear c40
                              by_cases c41 : 0 ≤ x65_1
                              · rw [if_pos c41] at H
                                have c41b0 : decide (0 ≤ x65_1) = true := decide_eq_true c41
                                clear c41
                                by_cases c42 : x65_1 < (y185.length : Int)
                                · rw [if_pos c42] at H
                                  have c42b0 : decide (x65_1 < (y185.length : Int)) = true := decide_eq_true c42
                                  clear c42
                                  obtain ⟨ji43, hji43⟩ : ∃ j_ : Int, (mn ((rd_L2 y185 x65_1).length : Int) (wrap64 (a4 - (x16_1.length : Int)))) = j_ := ⟨_, rfl⟩
                                  replace H : (if 0 ≤ (ji43) then (if (ji43) ≤ ((rd_L2 y185 x65_1).length : Int) then (if x16_1.length + ((rd_L2 y185 x65_1).take ((ji43) : Int).toNat).length < 140737488355328 then (shape_Join.l0 k1 a4 (x16_1 ++ ((rd_L2 y185 x65_1).take ((ji43) : Int).toNat)) y185 (y185.length : Int) (wrap64 (x65_1 + 1))) else (none)) else (none)) else (none)) = some (r1, r2) := by first | (rw [hji43] at H; exact H) | (simp only [hji43] at H ⊢; exact H)
                                  have hji43_ : (if (wrap64 (a4 - (x16_1.length : Int))) < ((rd_L2 y185 x65_1).length : Int) then (wrap64 (a4 - (x16_1.length : Int))) else ((rd_L2 y185 x65_1).length : Int)) = ji43 := hji43
                                  by_cases c44 : 0 ≤ (ji43)
                                  · rw [if_pos c44] at H
                                    have c44b0 := eq_true c44
                                    have c44b1 : decide (0 ≤ (ji43)) = true := decide_eq_true c44
                                    clear c44
                                    by_cases c45 : (ji43) ≤ ((rd_L2 y185 x65_1).length : Int)
                                    · rw [if_pos c45] at H
                                      have c45b0 := eq_true c45
                                      have c45b1 : decide ((ji43) ≤ ((rd_L2 y185 x65_1).length : Int)) = true := decide_eq_true c45
                                      clear c45
                                      by_cases c46 : x16_1.length + ((rd_L2 y185 x65_1).take ((ji43) : Int).toNat).length < 140737488355328
                                      · rw [if_pos c46] at H
                                        have LMc46 := Z0.mk c46
                                        clear c46
                                        obtain ⟨y191, hy191⟩ : ∃ y_ : List Int, y_ = (x16_1 ++ ((rd_L2 y185 x65_1).take ((ji43) : Int).toNat)) := ⟨_, rfl⟩
                                        replace H : (shape_Join.l0 k1 a4 y191 y185 (y185.length : Int) (wrap64 (x65_1 + 1))) = some (r1, r2) := by first | (rw [hy191]; with_reducible exact H) | (have H2_ := (Option.bind_some _ _).symm.trans H; rw [hy191]; with_reducible exact H2_) | (have H2_ := (Option.bind_some _ _).symm.trans H; with_reducible exact H2_) | with_reducible exact H | (rw [hy191]; exact H) | exact H
                                        have Ny191 := Z0.mk hy191
                                        clear hy191
                                        have H' := Z0.mk H
                                        clear H
                                        have p189 : 0 ≤ (x65_1 : Int) := of_decide_eq_true (by first | (with_reducible assumption) | assumption)
                                        have q189 : x65_1 < (y185.length : Int) := of_decide_eq_true (by first | (with_reducible assumption) | assumption)
                                        obtain ⟨ad189, A189_0, c189_0, e189, hx189_0, hl189_0, hi189_0⟩ := at_L2 HR188.out x65_1 p189 q189
                                        cases e189
                                        replace hx189_0 := (HB.out.cell (World.block_lt_of_cell? w _ hx189_0)).trans hx189_0
                                        have HR189_0 := Z0.mk hi189_0
                                        have HC189_0 := Z0.mk hl189_0
                                        clear hi189_0 hl189_0
                                        replace p189 := eq_true p189
                                        replace q189 := eq_true q189
                                        obtain ⟨Ao47, co47, eo47⟩ := Kd.R_slice HO_16.out
                                        subst eo47
                                        obtain ⟨i048, hi048, _, hsz48, _⟩ := info_parts info5
                                        obtain ⟨hcut48, hA48, hC48⟩ := print_take_of (P := Try.prog) (Value.int .u8) 0 27 5 .i64 Try.underlying27 hi048 hsz48 A189_0 c189_0 (rd_L2 y185 x65_1) (ji43) (of_decide_eq_true (by first | (with_reducible assumption) | assumption)) (of_decide_eq_true (by first | (with_reducible assumption) | assumption)) HC189_0.out
                                        have HR190 := Z0.mk (Kd.C_of_reads (h1 := fun _ => rfl) (hA48 _ (Kd.reads_of_C HR189_0.out)))
                                        have HC190 := Z0.mk hC48
                                        clear hA48 hC48 hi048 hsz48
                                        go_wp2_with (first | ((with_reducible refine gate_builtin (b := .append) (xs := #[.tmp 69, .tmp 78]) rfl ?_); at_builtin; refine Kd.R_append_rows (Kd.int .u8) (w0 := w) w.heap.size rfl (.tmp 69) (.tmp 78) 27 5 (.int .u8 0) 1 rfl Try.underlying27 info5 rfl (by decide) (by omega) (.slice Ao47 x16_1.length co47) x16_1 ((rd_L2 y185 x65_1).take ((ji43) : Int).toNat) _ _ _ (fun _ => True) (fun _ => False) rfl rfl ?aO ?aR (fun _ _ h => h) (fun _ h => h.elim) ?aF ?aB ?aS ?aL ?_; (case aR => first | (refine Go.Proofs.YtcbjabnnokjnpaaW.Copy.reads_len (show ((rd_L2 y185 x65_1).take ((ji43) : Int).toNat).length = (ji43).toNat from (by rw [List.length_take]; have h_ : ((ji43) : Int) ≤ ((rd_L2 y185 x65_1).length : Int) := of_decide_eq_true (by first | (with_reducible assumption) | assumption); omega)) ?_; repeat (first | exact (Kd.C_below HR190.out HB.out) | (with_reducible refine Kd.C_alloc ?_ _) | (with_reducible refine Kd.C_drewN ?_ _) | (with_reducible refine Kd.C_drew ?_))) | (repeat (first | exact (Kd.C_below HR190.out HB.out) | (with_reducible refine Kd.C_alloc ?_ _) | (with_reducible refine Kd.C_drewN ?_ _) | (with_reducible refine Kd.C_drew ?_)))); (case aB => exact (by repeat (first | (with_reducible first | exact HB.out | apply bwA | apply bwN | apply bw1) | exact HB.out))); (case aF => exact (fun _ _ => trivial)); (case aO => exact (by (with_reducible repeat (first | apply Kd.R_alloc | apply Kd.R_drewN | apply Kd.R_drew)); exact HO_16.out)); (case aS => exact (bwZ (by repeat (first | (with_reducible first | exact HB.out | apply bwA | apply bwN | apply bw1) | exact HB.out)))); (case aL => have := LMc46.out; have hlx_ := (show ((rd_L2 y185 x65_1).take ((ji43) : Int).toNat).length = (ji43).toNat from (by rw [List.length_take]; have h_ : ((ji43) : Int) ≤ ((rd_L2 y185 x65_1).length : Int) := of_decide_eq_true (by first | (with_reducible assumption) | assumption); omega)); omega); intro v192 w49 ho hb hg hat; rw [← Ny191.out] at ho; have n0_ := Z0.mk (hb); have n1_ := Z0.mk (ho); clear HB; clear HO_16; have HB := n0_; have HO193 := n1_; clear n0_ n1_; clear ho hb hg hat))
                                        go_roundg k1
                                        case measure => have := HK1.out; omega
                                        case rel => exact ⟨(y191), (wrap64 (x65_1 + 1)), (by first | rfl | (simp; done) | (simp [*]; done)), H', ⟨by have := HK1.out; omega⟩, ⟨by (with_reducible repeat (first | apply Kd.R_alloc | apply Kd.R_drewN | apply Kd.R_drew)); exact HO193.out⟩, ⟨by repeat (first | (with_reducible first | exact HB.out | apply bwA | apply bwN | apply bw1) | exact HB.out)⟩⟩
                                      · rw [if_neg c46] at H
                                        exact absurd H (by simp)
                                    · rw [if_neg c45] at H
                                      exact absurd H (by simp)
                                  · rw [if_neg c44] at H
                                    exact absurd H (by simp)
                                · rw [if_neg c42] at H
                                  exact absurd H (by simp)
                              · rw [if_neg c41] at H
                                exact absurd H (by simp)
                            · rw [if_neg c40] at H
                              have c40b0 : decide (x65_1 < (y185.length : Int)) = false := decide_eq_false c40
                              clear c40
                              simp only [Option.some.injEq, Prod.mk.injEq] at H
                              obtain ⟨rfl, rfl⟩ := H
                              go_wp2
                              go_ret2
                              exact ⟨_, by first | rfl | (simp [ewN, ewS] <;> rfl) | (simp [*, ewN, ewS] <;> rfl), by (with_reducible repeat (first | apply Kd.R_alloc | apply Kd.R_drewN | apply Kd.R_drew)); exact HO_16.out, by repeat (first | (with_reducible first | exact HB.out | apply bwA | apply bwN | apply bw1) | exact HB.out)⟩
                      · rw [if_neg c31] at H
                        exact absurd H (by simp)
                    · rw [if_neg c30] at H
                      exact absurd H (by simp)
            · replace c16 := Bool.eq_false_iff.mpr c16
              subst c16
              have H1 : (some (([] : List Int), 162)) = some (r1, r2) := by rw [if_neg (show ¬ (false = true) by decide)] at H; exact H
              clear H
              have H := H1
              clear H1
              simp only [Option.some.injEq, Prod.mk.injEq] at H
              obtain ⟨rfl, rfl⟩ := H
              go_enter Try.func18, Try.ntmps18
              go_wp2_with (first | ((with_reducible refine gate_callee (f := 14) rfl ?_); refine goesL_ (some 22) rfl rfl Try.func14 (by kernel_rfl) rfl #[.int .i64 a0, .int .i64 a1, .int .i64 a2] rfl (by (try simp only [List.map_toArray, List.map_cons, List.map_nil]); first | done | rfl | (simp only [List.length_drop, List.length_take]; rfl)) ?_; (with_reducible refine (shape_Params.calls k a0 a1 a2 t171 _ A6.out).mono ?_); rintro e w' ⟨rfl, ⟨nd, rfl⟩⟩; refine ⟨_, rfl, ?_⟩; have q50 : (a1 : Int) ≤ ((l3.length : Int) : Int) := of_decide_eq_true (by first | (with_reducible assumption) | assumption); obtain ⟨i050, hi050, _, hsz50, _⟩ := info_parts info27; have hroom50 : l3.length ≤ c3 := HC3.out; have hC50 : Kd.C (Kd.slice 5 (Kd.int .u8)) _ A3 l3.length l3 := HR3.out; (try clear hcut39); have hcut50 := cut_to (P := Try.prog) 22 27 .i64 Try.underlying22 hi050 A3 l3.length c3 a1 (of_decide_eq_true (by first | (with_reducible assumption) | assumption)) q50 hroom50; have hr50 := Kd.C_take (m := (a1 : Int).toNat) hC50 (by omega); have hy50 : y172.length = (a1 : Int).toNat := (by rw [Ny172.out, List.length_take]; omega); rw [← Ny172.out] at hr50; rw [← hy50] at hcut50; have HR175 := Z0.mk hr50; have HC175 := Z0.mk (show y172.length ≤ c3 from by omega); clear hr50 hC50 hroom50 hi050 hsz50; have KY50 := Z0.mk hy50; clear hy50; replace q50 := eq_true q50) | ((with_reducible refine gate_callee (f := 34) rfl ?_); refine goesL_ (some 34) rfl rfl Try.func34 (by kernel_rfl) rfl #[.slice A3 y172.length c3] rfl (by (try simp only [List.map_toArray, List.map_cons, List.map_nil]); first | done | rfl | (simp only [List.length_drop, List.length_take]; rfl)) ?_; (with_reducible refine (shape_lengths.calls k _ _ y172 t176 t177 false _ ?side1 ?side2 A11.out).mono ?_); (case side1 => repeat (first | exact HR175.out | (with_reducible refine Kd.C_alloc ?_ _) | (with_reducible refine Kd.C_drewN ?_ _) | (with_reducible refine Kd.C_drew ?_))); (case side2 => exact HC175.out); rintro e w51 ⟨v179, rfl, ho0, hb⟩; refine ⟨_, rfl, ?_⟩; have n0_ := Z0.mk (Kd.R_lower ho0 (bwZ (by repeat (first | (with_reducible first | exact HB.out | apply bwA | apply bwN | apply bw1) | exact HB.out)))); have n1_ := Z0.mk (bwT (by repeat (first | (with_reducible first | exact HB.out | apply bwA | apply bwN | apply bw1) | exact HB.out)) hb); clear HB; have HO180 := n0_; have HB := n1_; clear n0_ n1_; (try clear hb); (try clear hb2); (try clear hk); (try clear hi); (try clear ho0); obtain ⟨Ao52, co52, eo52⟩ := Kd.R_slice HO180.out; subst eo52))
              go_ret2
              exact ⟨_, by first | rfl | (simp [ewN, ewS] <;> rfl) | (simp [*, ewN, ewS] <;> rfl), by first | exact Kd.R_nil _ _ _ _ _ | exact Kd.N_nil _ _ _ _ _ | exact Kd.V_nil _ _ _ _ _ | exact Kd.Q_nil _ _ _ _ _ | exact Kd.S_nil _ _ _ _ _, by repeat (first | (with_reducible first | exact HB.out | apply bwA | apply bwN | apply bw1) | exact HB.out)⟩
        · rw [if_neg c10] at H
          exact absurd H (by simp)
      · rw [if_neg c9] at H
        exact absurd H (by simp)
  · rw [if_neg c7] at H
    have c7b0 : (t171 == 0) = false := beq_eq_false_iff_ne.mpr c7
    have c7b1 : (t171 != 0) = true := bne_iff_ne.mpr c7
    simp only [Option.some.injEq, Prod.mk.injEq] at H
    obtain ⟨rfl, rfl⟩ := H
    go_enter Try.func18, Try.ntmps18
    go_wp2_with (first | ((with_reducible refine gate_callee (f := 14) rfl ?_); refine goesL_ (some 22) rfl rfl Try.func14 (by kernel_rfl) rfl #[.int .i64 a0, .int .i64 a1, .int .i64 a2] rfl (by (try simp only [List.map_toArray, List.map_cons, List.map_nil]); first | done | rfl | (simp only [List.length_drop, List.length_take]; rfl)) ?_; (with_reducible refine (shape_Params.calls k a0 a1 a2 t171 _ A6.out).mono ?_); rintro e w' ⟨rfl, ⟨nd, rfl⟩⟩; refine ⟨_, rfl, ?_⟩))
    go_ret2
    exact ⟨_, by first | rfl | (simp [ewN, ewS] <;> rfl) | (simp [*, ewN, ewS] <;> rfl), by first | exact Kd.R_nil _ _ _ _ _ | exact Kd.N_nil _ _ _ _ _ | exact Kd.V_nil _ _ _ _ _ | exact Kd.Q_nil _ _ _ _ _ | exact Kd.S_nil _ _ _ _ _, by repeat (first | (with_reducible first | exact HB.out | apply bwA | apply bwN | apply bw1) | exact HB.out)⟩

end Go.Proofs.Ytcbjabnnokjnpaa.PA
