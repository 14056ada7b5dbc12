-- Written by a program of this session (wip/drive.py, merge.py) for this seat.
import Derived.Test.YtcbjabnnokjnpaaPAx0
import Derived.Test.YtcbjabnnokjnpaaPAx3
import Derived.Test.YtcbjabnnokjnpaaPAx6
namespace Go.Proofs.Ytcbjabnnokjnpaa.PA
open Go.RowKit Go.Proofs.YtcbjabnnokjnpaaW.PrintWords Go.Proofs.YtcbjabnnokjnpaaW.PrintLast Go.Proofs.YtcbjabnnokjnpaaW.PrintMore
attribute [local go_sem] max2_int min2_int max_two min_two max_three min_three max_four min_four   -- for this text's walks alone
set_option linter.unusedVariables false
set_option linter.unusedSimpArgs false

/-! ### culletlaw16_numbers: function 36 -/
def culletlaw16_numbers.f (k : Nat) (a0_0 : Int) (a0_1 : Int) (a0_2 : Int) (a0_3 : Int) (a0_4 : Int) (l0_5 : List (List Int)) (l0_6 : List (List Int)) (l0_7 : List Int) : Option (Bool) := if a0_0 = 1 then ((shape_Pow2.f k a0_4).bind fun bt330 => ((culletref16_Pow2.f k a0_4).bind fun bt332 => (if bt330.1 = bt332.1 then (some (bt330.2 == bt332.2)) else (some false)))) else (if a0_0 = 2 then ((shape_Params.f k a0_1 a0_2 a0_3).bind fun t334 => ((culletref16_Params.f k a0_1 a0_2 a0_3).bind fun t335 => (some (t334 == t335)))) else (if a0_0 = 3 then ((shape_Uses.f k a0_1 a0_4).bind fun t336 => ((culletref16_Uses.f k a0_1 a0_4).bind fun t337 => (some (t336 == t337)))) else ((shape_Length.f k a0_1 a0_2 a0_3 a0_4).bind fun bt338 => ((culletref16_Length.f k a0_1 a0_2 a0_3 a0_4).bind fun bt340 => (if bt338.1 = bt340.1 then (some (bt338.2 == bt340.2)) else (some false))))))
theorem culletlaw16_numbers.mono : ∀ a0 a1 a2 a3 a4 a5 a6 a7 k, LeO (culletlaw16_numbers.f k a0 a1 a2 a3 a4 a5 a6 a7) (culletlaw16_numbers.f (k + 1) a0 a1 a2 a3 a4 a5 a6 a7) := by
  intro a0 a1 a2 a3 a4 a5 a6 a7 k
  unfold culletlaw16_numbers.f
  repeat' first
      | (with_reducible exact culletref16_Length.mono _ _ _ _ _)
      | (with_reducible exact culletref16_Params.mono _ _ _ _)
      | (with_reducible exact culletref16_Pow2.mono _ _)
      | (with_reducible exact culletref16_Uses.mono _ _ _)
      | (with_reducible exact shape_Length.mono _ _ _ _ _)
      | (with_reducible exact shape_Params.mono _ _ _ _)
      | (with_reducible exact shape_Pow2.mono _ _)
      | (with_reducible exact shape_Uses.mono _ _ _)
      | (with_reducible exact LeO.refl _)
      | (with_reducible exact LeO.none _)
      | (with_reducible refine LeO.ite ?_ ?_)
      | (with_reducible refine LeO.bind ?_ (fun _ => ?_))
      | exact culletref16_Length.mono _ _ _ _ _
      | exact culletref16_Params.mono _ _ _ _
      | exact culletref16_Pow2.mono _ _
      | exact culletref16_Uses.mono _ _ _
      | exact shape_Length.mono _ _ _ _ _
      | exact shape_Params.mono _ _ _ _
      | exact shape_Pow2.mono _ _
      | exact shape_Uses.mono _ _ _
      | exact LeO.none _
      | refine LeO.ite ?_ ?_
      | refine LeO.bind ?_ (fun _ => ?_)
set_option maxHeartbeats 8000000 in
set_option maxRecDepth 100000 in
theorem culletlaw16_numbers.calls (k : Nat) (a0_0 : Int) (a0_1 : Int) (a0_2 : Int) (a0_3 : Int) (a0_4 : Int) (A0_5 : Option Addr) (c0_5 : Nat) (l0_5 : List (List Int)) (A0_6 : Option Addr) (c0_6 : Nat) (l0_6 : List (List Int)) (A0_7 : Option Addr) (c0_7 : Nat) (l0_7 : List Int) (r : Bool) (w : World) (hr0_5 : Kd.C (Kd.slice 5 (Kd.int .u8)) w A0_5 l0_5.length l0_5) (hc0_5 : l0_5.length ≤ c0_5) (hr0_6 : Kd.C (Kd.slice 5 (Kd.int .u8)) w A0_6 l0_6.length l0_6) (hc0_6 : l0_6.length ≤ c0_6) (hr0_7 : Kd.C (Kd.int .u8) w A0_7 l0_7.length l0_7) (hc0_7 : l0_7.length ≤ c0_7) (h : culletlaw16_numbers.f k a0_0 a0_1 a0_2 a0_3 a0_4 l0_5 l0_6 l0_7 = some r) :
    Calls Try.prog 36 #[.agg #[.int .i64 a0_0, .int .i64 a0_1, .int .i64 a0_2, .int .i64 a0_3, .int .i64 a0_4, .slice A0_5 l0_5.length c0_5, .slice A0_6 l0_6.length c0_6, .slice A0_7 l0_7.length c0_7]] w fun e w' => e = .returned (.bool r) ∧ Below w.heap.size w w' := by
  have hu38 := Try.underlying38
  have HR0_5 := Z0.mk hr0_5
  have HC0_5 := Z0.mk hc0_5
  clear hr0_5 hc0_5
  have HR0_6 := Z0.mk hr0_6
  have HC0_6 := Z0.mk hc0_6
  clear hr0_6 hc0_6
  have HR0_7 := Z0.mk hr0_7
  have HC0_7 := Z0.mk hc0_7
  clear hr0_7 hc0_7
  have HB := Z0.mk (Below.refl w.heap.size w)
  have H : (if a0_0 = 1 then ((shape_Pow2.f k a0_4).bind fun bt330 => ((culletref16_Pow2.f k a0_4).bind fun bt332 => (if bt330.1 = bt332.1 then (some (bt330.2 == bt332.2)) else (some false)))) else (if a0_0 = 2 then ((shape_Params.f k a0_1 a0_2 a0_3).bind fun t334 => ((culletref16_Params.f k a0_1 a0_2 a0_3).bind fun t335 => (some (t334 == t335)))) else (if a0_0 = 3 then ((shape_Uses.f k a0_1 a0_4).bind fun t336 => ((culletref16_Uses.f k a0_1 a0_4).bind fun t337 => (some (t336 == t337)))) else ((shape_Length.f k a0_1 a0_2 a0_3 a0_4).bind fun bt338 => ((culletref16_Length.f k a0_1 a0_2 a0_3 a0_4).bind fun bt340 => (if bt338.1 = bt340.1 then (some (bt338.2 == bt340.2)) else (some false))))))) = some r := h
  clear h
  by_cases c2 : a0_0 = 1
  · rw [if_pos c2] at H
    have c2b0 : (a0_0 == 1) = true := beq_iff_eq.mpr c2
    have c2b1 : (a0_0 != 1) = false := bne_eq_false_iff_eq.mpr c2
    clear c2
    replace H := Option.bind_eq_some_iff.mp H
    obtain ⟨⟨t330, t331⟩, A30, H⟩ := H
    dsimp only at H
    have A3 := Z0.mk A30
    clear A30
    replace H := Option.bind_eq_some_iff.mp H
    obtain ⟨⟨t332, t333⟩, A40, H⟩ := H
    dsimp only at H
    have A4 := Z0.mk A40
    clear A40
    by_cases c5 : t330 = t332
    · rw [if_pos c5] at H
      have c5b0 : (t330 == t332) = true := beq_iff_eq.mpr c5
      have c5b1 : (t330 != t332) = false := bne_eq_false_iff_eq.mpr c5
      clear c5
      obtain rfl := Option.some.inj H
      go_enter Try.func36, Try.ntmps36
      go_wp2_with (first | ((with_reducible refine gate_dst (N := 1) rfl ?_); refine box_event ?hg (N := 1) ?hd (cs := #[.int .i64 a0_0, .int .i64 a0_1, .int .i64 a0_2, .int .i64 a0_3, .int .i64 a0_4, .slice A0_5 l0_5.length c0_5, .slice A0_6 l0_6.length c0_6, .slice A0_7 l0_7.length c0_7]) (t := 38) ?hr ?_; (case hd => rfl); (case hg => rfl); (case hr => first | (go_simp; done) | (go_simp; rfl)); intro gb329 hg w6 hbox hb; have n0_ := Z0.mk (bwT (by repeat (first | (with_reducible first | exact HB.out | apply bwA | apply bwN | apply bw1) | exact HB.out)) hb); have n1_ := Z0.mk (hbox); have n2_ := Z0.mk ((by rw [hg]; exact (bwZ (by repeat (first | (with_reducible first | exact HB.out | apply bwA | apply bwN | apply bw1) | exact HB.out))) : w.heap.size ≤ gb329)); have n3_ := Z0.mk ((by rw [hg]; exact (bwZ (by repeat (first | (with_reducible first | exact HB.out | apply bwA | apply bwN | apply bw1) | exact HB.out))) : w.heap.size ≤ gb329)); clear HB; have HB := n0_; have BK329 := n1_; have GW329 := n2_; have GE329 := n3_; clear n0_ n1_ n2_ n3_; clear hb hbox hg; have hcz7_0 : w6.cell? ⟨gb329, 0, none⟩ = some (.int .i64 a0_0) := (bkC BK329.out 0).trans rfl; have hcz7_1 : w6.cell? ⟨gb329, 1, none⟩ = some (.int .i64 a0_1) := (bkC BK329.out 1).trans rfl; have hcz7_2 : w6.cell? ⟨gb329, 2, none⟩ = some (.int .i64 a0_2) := (bkC BK329.out 2).trans rfl; have hcz7_3 : w6.cell? ⟨gb329, 3, none⟩ = some (.int .i64 a0_3) := (bkC BK329.out 3).trans rfl; have hcz7_4 : w6.cell? ⟨gb329, 4, none⟩ = some (.int .i64 a0_4) := (bkC BK329.out 4).trans rfl; have hcz7_5 : w6.cell? ⟨gb329, 5, none⟩ = some (.slice A0_5 l0_5.length c0_5) := (bkC BK329.out 5).trans rfl; have hcz7_6 : w6.cell? ⟨gb329, 6, none⟩ = some (.slice A0_6 l0_6.length c0_6) := (bkC BK329.out 6).trans rfl; have hcz7_7 : w6.cell? ⟨gb329, 7, none⟩ = some (.slice A0_7 l0_7.length c0_7) := (bkC BK329.out 7).trans rfl; have hfz7_0 := bkF BK329.out 0; have hfz7_1 := bkF BK329.out 1; have hfz7_2 := bkF BK329.out 2; have hfz7_3 := bkF BK329.out 3; have hfz7_4 := bkF BK329.out 4; have hfz7_5 := bkF BK329.out 5; have hfz7_6 := bkF BK329.out 6; have hfz7_7 := bkF BK329.out 7) | (go_at_call 40; (with_reducible refine (shape_Pow2.calls k a0_4 t330 t331 _ A3.out).mono ?_); rintro e w' ⟨rfl, ⟨nd, rfl⟩⟩; (try first | exact ⟨rfl, _, World.drewN_drewN _ _ _⟩ | exact ⟨rfl, _, Eq.trans (World.drewN_drewN _ _ _) (congrArg (World.drewN _) (Nat.add_assoc _ _ _))⟩)) | (go_at_call 35; (with_reducible refine (culletref16_Pow2.calls k a0_4 t332 t333 _ A4.out).mono ?_); rintro e w' ⟨rfl, ⟨nd, rfl⟩⟩; (try first | exact ⟨rfl, _, World.drewN_drewN _ _ _⟩ | exact ⟨rfl, _, Eq.trans (World.drewN_drewN _ _ _) (congrArg (World.drewN _) (Nat.add_assoc _ _ _))⟩)))
      repeat (go_quiet (first | ((with_reducible refine gate_dst (N := 1) rfl ?_); refine box_event ?hg (N := 1) ?hd (cs := #[.int .i64 a0_0, .int .i64 a0_1, .int .i64 a0_2, .int .i64 a0_3, .int .i64 a0_4, .slice A0_5 l0_5.length c0_5, .slice A0_6 l0_6.length c0_6, .slice A0_7 l0_7.length c0_7]) (t := 38) ?hr ?_; (case hd => rfl); (case hg => rfl); (case hr => first | (go_simp; done) | (go_simp; rfl)); intro gb329 hg w6 hbox hb; have n0_ := Z0.mk (bwT (by repeat (first | (with_reducible first | exact HB.out | apply bwA | apply bwN | apply bw1) | exact HB.out)) hb); have n1_ := Z0.mk (hbox); have n2_ := Z0.mk ((by rw [hg]; exact (bwZ (by repeat (first | (with_reducible first | exact HB.out | apply bwA | apply bwN | apply bw1) | exact HB.out))) : w.heap.size ≤ gb329)); have n3_ := Z0.mk ((by rw [hg]; exact (bwZ (by repeat (first | (with_reducible first | exact HB.out | apply bwA | apply bwN | apply bw1) | exact HB.out))) : w.heap.size ≤ gb329)); clear HB; have HB := n0_; have BK329 := n1_; have GW329 := n2_; have GE329 := n3_; clear n0_ n1_ n2_ n3_; clear hb hbox hg; have hcz7_0 : w6.cell? ⟨gb329, 0, none⟩ = some (.int .i64 a0_0) := (bkC BK329.out 0).trans rfl; have hcz7_1 : w6.cell? ⟨gb329, 1, none⟩ = some (.int .i64 a0_1) := (bkC BK329.out 1).trans rfl; have hcz7_2 : w6.cell? ⟨gb329, 2, none⟩ = some (.int .i64 a0_2) := (bkC BK329.out 2).trans rfl; have hcz7_3 : w6.cell? ⟨gb329, 3, none⟩ = some (.int .i64 a0_3) := (bkC BK329.out 3).trans rfl; have hcz7_4 : w6.cell? ⟨gb329, 4, none⟩ = some (.int .i64 a0_4) := (bkC BK329.out 4).trans rfl; have hcz7_5 : w6.cell? ⟨gb329, 5, none⟩ = some (.slice A0_5 l0_5.length c0_5) := (bkC BK329.out 5).trans rfl; have hcz7_6 : w6.cell? ⟨gb329, 6, none⟩ = some (.slice A0_6 l0_6.length c0_6) := (bkC BK329.out 6).trans rfl; have hcz7_7 : w6.cell? ⟨gb329, 7, none⟩ = some (.slice A0_7 l0_7.length c0_7) := (bkC BK329.out 7).trans rfl; have hfz7_0 := bkF BK329.out 0; have hfz7_1 := bkF BK329.out 1; have hfz7_2 := bkF BK329.out 2; have hfz7_3 := bkF BK329.out 3; have hfz7_4 := bkF BK329.out 4; have hfz7_5 := bkF BK329.out 5; have hfz7_6 := bkF BK329.out 6; have hfz7_7 := bkF BK329.out 7) | (go_at_call 40; (with_reducible refine (shape_Pow2.calls k a0_4 t330 t331 _ A3.out).mono ?_); rintro e w' ⟨rfl, ⟨nd, rfl⟩⟩; (try first | exact ⟨rfl, _, World.drewN_drewN _ _ _⟩ | exact ⟨rfl, _, Eq.trans (World.drewN_drewN _ _ _) (congrArg (World.drewN _) (Nat.add_assoc _ _ _))⟩)) | (go_at_call 35; (with_reducible refine (culletref16_Pow2.calls k a0_4 t332 t333 _ A4.out).mono ?_); rintro e w' ⟨rfl, ⟨nd, rfl⟩⟩; (try first | exact ⟨rfl, _, World.drewN_drewN _ _ _⟩ | exact ⟨rfl, _, Eq.trans (World.drewN_drewN _ _ _) (congrArg (World.drewN _) (Nat.add_assoc _ _ _))⟩))); try go_wp2_with (first | ((with_reducible refine gate_dst (N := 1) rfl ?_); refine box_event ?hg (N := 1) ?hd (cs := #[.int .i64 a0_0, .int .i64 a0_1, .int .i64 a0_2, .int .i64 a0_3, .int .i64 a0_4, .slice A0_5 l0_5.length c0_5, .slice A0_6 l0_6.length c0_6, .slice A0_7 l0_7.length c0_7]) (t := 38) ?hr ?_; (case hd => rfl); (case hg => rfl); (case hr => first | (go_simp; done) | (go_simp; rfl)); intro gb329 hg w6 hbox hb; have n0_ := Z0.mk (bwT (by repeat (first | (with_reducible first | exact HB.out | apply bwA | apply bwN | apply bw1) | exact HB.out)) hb); have n1_ := Z0.mk (hbox); have n2_ := Z0.mk ((by rw [hg]; exact (bwZ (by repeat (first | (with_reducible first | exact HB.out | apply bwA | apply bwN | apply bw1) | exact HB.out))) : w.heap.size ≤ gb329)); have n3_ := Z0.mk ((by rw [hg]; exact (bwZ (by repeat (first | (with_reducible first | exact HB.out | apply bwA | apply bwN | apply bw1) | exact HB.out))) : w.heap.size ≤ gb329)); clear HB; have HB := n0_; have BK329 := n1_; have GW329 := n2_; have GE329 := n3_; clear n0_ n1_ n2_ n3_; clear hb hbox hg; have hcz7_0 : w6.cell? ⟨gb329, 0, none⟩ = some (.int .i64 a0_0) := (bkC BK329.out 0).trans rfl; have hcz7_1 : w6.cell? ⟨gb329, 1, none⟩ = some (.int .i64 a0_1) := (bkC BK329.out 1).trans rfl; have hcz7_2 : w6.cell? ⟨gb329, 2, none⟩ = some (.int .i64 a0_2) := (bkC BK329.out 2).trans rfl; have hcz7_3 : w6.cell? ⟨gb329, 3, none⟩ = some (.int .i64 a0_3) := (bkC BK329.out 3).trans rfl; have hcz7_4 : w6.cell? ⟨gb329, 4, none⟩ = some (.int .i64 a0_4) := (bkC BK329.out 4).trans rfl; have hcz7_5 : w6.cell? ⟨gb329, 5, none⟩ = some (.slice A0_5 l0_5.length c0_5) := (bkC BK329.out 5).trans rfl; have hcz7_6 : w6.cell? ⟨gb329, 6, none⟩ = some (.slice A0_6 l0_6.length c0_6) := (bkC BK329.out 6).trans rfl; have hcz7_7 : w6.cell? ⟨gb329, 7, none⟩ = some (.slice A0_7 l0_7.length c0_7) := (bkC BK329.out 7).trans rfl; have hfz7_0 := bkF BK329.out 0; have hfz7_1 := bkF BK329.out 1; have hfz7_2 := bkF BK329.out 2; have hfz7_3 := bkF BK329.out 3; have hfz7_4 := bkF BK329.out 4; have hfz7_5 := bkF BK329.out 5; have hfz7_6 := bkF BK329.out 6; have hfz7_7 := bkF BK329.out 7) | (go_at_call 40; (with_reducible refine (shape_Pow2.calls k a0_4 t330 t331 _ A3.out).mono ?_); rintro e w' ⟨rfl, ⟨nd, rfl⟩⟩; (try first | exact ⟨rfl, _, World.drewN_drewN _ _ _⟩ | exact ⟨rfl, _, Eq.trans (World.drewN_drewN _ _ _) (congrArg (World.drewN _) (Nat.add_assoc _ _ _))⟩)) | (go_at_call 35; (with_reducible refine (culletref16_Pow2.calls k a0_4 t332 t333 _ A4.out).mono ?_); rintro e w' ⟨rfl, ⟨nd, rfl⟩⟩; (try first | exact ⟨rfl, _, World.drewN_drewN _ _ _⟩ | exact ⟨rfl, _, Eq.trans (World.drewN_drewN _ _ _) (congrArg (World.drewN _) (Nat.add_assoc _ _ _))⟩))))
      go_ret
      exact ⟨by first | rfl | (simp [ewN, ewS] <;> rfl) | (simp [*, ewN, ewS] <;> rfl), by repeat (first | (with_reducible first | exact HB.out | apply bwA | apply bwN | apply bw1 | refine bwS ?_ GE329.out) | exact HB.out)⟩
    · rw [if_neg c5] at H
      have c5b0 : (t330 == t332) = false := beq_eq_false_iff_ne.mpr c5
      have c5b1 : (t330 != t332) = true := bne_iff_ne.mpr c5
      obtain rfl := Option.some.inj H
      go_enter Try.func36, Try.ntmps36
      go_wp2_with (first | ((with_reducible refine gate_dst (N := 1) rfl ?_); refine box_event ?hg (N := 1) ?hd (cs := #[.int .i64 a0_0, .int .i64 a0_1, .int .i64 a0_2, .int .i64 a0_3, .int .i64 a0_4, .slice A0_5 l0_5.length c0_5, .slice A0_6 l0_6.length c0_6, .slice A0_7 l0_7.length c0_7]) (t := 38) ?hr ?_; (case hd => rfl); (case hg => rfl); (case hr => first | (go_simp; done) | (go_simp; rfl)); intro gb329 hg w8 hbox hb; have n0_ := Z0.mk (bwT (by repeat (first | (with_reducible first | exact HB.out | apply bwA | apply bwN | apply bw1) | exact HB.out)) hb); have n1_ := Z0.mk (hbox); have n2_ := Z0.mk ((by rw [hg]; exact (bwZ (by repeat (first | (with_reducible first | exact HB.out | apply bwA | apply bwN | apply bw1) | exact HB.out))) : w.heap.size ≤ gb329)); have n3_ := Z0.mk ((by rw [hg]; exact (bwZ (by repeat (first | (with_reducible first | exact HB.out | apply bwA | apply bwN | apply bw1) | exact HB.out))) : w.heap.size ≤ gb329)); clear HB; have HB := n0_; have BK329 := n1_; have GW329 := n2_; have GE329 := n3_; clear n0_ n1_ n2_ n3_; clear hb hbox hg; have hcz9_0 : w8.cell? ⟨gb329, 0, none⟩ = some (.int .i64 a0_0) := (bkC BK329.out 0).trans rfl; have hcz9_1 : w8.cell? ⟨gb329, 1, none⟩ = some (.int .i64 a0_1) := (bkC BK329.out 1).trans rfl; have hcz9_2 : w8.cell? ⟨gb329, 2, none⟩ = some (.int .i64 a0_2) := (bkC BK329.out 2).trans rfl; have hcz9_3 : w8.cell? ⟨gb329, 3, none⟩ = some (.int .i64 a0_3) := (bkC BK329.out 3).trans rfl; have hcz9_4 : w8.cell? ⟨gb329, 4, none⟩ = some (.int .i64 a0_4) := (bkC BK329.out 4).trans rfl; have hcz9_5 : w8.cell? ⟨gb329, 5, none⟩ = some (.slice A0_5 l0_5.length c0_5) := (bkC BK329.out 5).trans rfl; have hcz9_6 : w8.cell? ⟨gb329, 6, none⟩ = some (.slice A0_6 l0_6.length c0_6) := (bkC BK329.out 6).trans rfl; have hcz9_7 : w8.cell? ⟨gb329, 7, none⟩ = some (.slice A0_7 l0_7.length c0_7) := (bkC BK329.out 7).trans rfl; have hfz9_0 := bkF BK329.out 0; have hfz9_1 := bkF BK329.out 1; have hfz9_2 := bkF BK329.out 2; have hfz9_3 := bkF BK329.out 3; have hfz9_4 := bkF BK329.out 4; have hfz9_5 := bkF BK329.out 5; have hfz9_6 := bkF BK329.out 6; have hfz9_7 := bkF BK329.out 7) | (go_at_call 40; (with_reducible refine (shape_Pow2.calls k a0_4 t330 t331 _ A3.out).mono ?_); rintro e w' ⟨rfl, ⟨nd, rfl⟩⟩; (try first | exact ⟨rfl, _, World.drewN_drewN _ _ _⟩ | exact ⟨rfl, _, Eq.trans (World.drewN_drewN _ _ _) (congrArg (World.drewN _) (Nat.add_assoc _ _ _))⟩)) | (go_at_call 35; (with_reducible refine (culletref16_Pow2.calls k a0_4 t332 t333 _ A4.out).mono ?_); rintro e w' ⟨rfl, ⟨nd, rfl⟩⟩; (try first | exact ⟨rfl, _, World.drewN_drewN _ _ _⟩ | exact ⟨rfl, _, Eq.trans (World.drewN_drewN _ _ _) (congrArg (World.drewN _) (Nat.add_assoc _ _ _))⟩)))
      repeat (go_quiet (first | ((with_reducible refine gate_dst (N := 1) rfl ?_); refine box_event ?hg (N := 1) ?hd (cs := #[.int .i64 a0_0, .int .i64 a0_1, .int .i64 a0_2, .int .i64 a0_3, .int .i64 a0_4, .slice A0_5 l0_5.length c0_5, .slice A0_6 l0_6.length c0_6, .slice A0_7 l0_7.length c0_7]) (t := 38) ?hr ?_; (case hd => rfl); (case hg => rfl); (case hr => first | (go_simp; done) | (go_simp; rfl)); intro gb329 hg w8 hbox hb; have n0_ := Z0.mk (bwT (by repeat (first | (with_reducible first | exact HB.out | apply bwA | apply bwN | apply bw1) | exact HB.out)) hb); have n1_ := Z0.mk (hbox); have n2_ := Z0.mk ((by rw [hg]; exact (bwZ (by repeat (first | (with_reducible first | exact HB.out | apply bwA | apply bwN | apply bw1) | exact HB.out))) : w.heap.size ≤ gb329)); have n3_ := Z0.mk ((by rw [hg]; exact (bwZ (by repeat (first | (with_reducible first | exact HB.out | apply bwA | apply bwN | apply bw1) | exact HB.out))) : w.heap.size ≤ gb329)); clear HB; have HB := n0_; have BK329 := n1_; have GW329 := n2_; have GE329 := n3_; clear n0_ n1_ n2_ n3_; clear hb hbox hg; have hcz9_0 : w8.cell? ⟨gb329, 0, none⟩ = some (.int .i64 a0_0) := (bkC BK329.out 0).trans rfl; have hcz9_1 : w8.cell? ⟨gb329, 1, none⟩ = some (.int .i64 a0_1) := (bkC BK329.out 1).trans rfl; have hcz9_2 : w8.cell? ⟨gb329, 2, none⟩ = some (.int .i64 a0_2) := (bkC BK329.out 2).trans rfl; have hcz9_3 : w8.cell? ⟨gb329, 3, none⟩ = some (.int .i64 a0_3) := (bkC BK329.out 3).trans rfl; have hcz9_4 : w8.cell? ⟨gb329, 4, none⟩ = some (.int .i64 a0_4) := (bkC BK329.out 4).trans rfl; have hcz9_5 : w8.cell? ⟨gb329, 5, none⟩ = some (.slice A0_5 l0_5.length c0_5) := (bkC BK329.out 5).trans rfl; have hcz9_6 : w8.cell? ⟨gb329, 6, none⟩ = some (.slice A0_6 l0_6.length c0_6) := (bkC BK329.out 6).trans rfl; have hcz9_7 : w8.cell? ⟨gb329, 7, none⟩ = some (.slice A0_7 l0_7.length c0_7) := (bkC BK329.out 7).trans rfl; have hfz9_0 := bkF BK329.out 0; have hfz9_1 := bkF BK329.out 1; have hfz9_2 := bkF BK329.out 2; have hfz9_3 := bkF BK329.out 3; have hfz9_4 := bkF BK329.out 4; have hfz9_5 := bkF BK329.out 5; have hfz9_6 := bkF BK329.out 6; have hfz9_7 := bkF BK329.out 7) | (go_at_call 40; (with_reducible refine (shape_Pow2.calls k a0_4 t330 t331 _ A3.out).mono ?_); rintro e w' ⟨rfl, ⟨nd, rfl⟩⟩; (try first | exact ⟨rfl, _, World.drewN_drewN _ _ _⟩ | exact ⟨rfl, _, Eq.trans (World.drewN_drewN _ _ _) (congrArg (World.drewN _) (Nat.add_assoc _ _ _))⟩)) | (go_at_call 35; (with_reducible refine (culletref16_Pow2.calls k a0_4 t332 t333 _ A4.out).mono ?_); rintro e w' ⟨rfl, ⟨nd, rfl⟩⟩; (try first | exact ⟨rfl, _, World.drewN_drewN _ _ _⟩ | exact ⟨rfl, _, Eq.trans (World.drewN_drewN _ _ _) (congrArg (World.drewN _) (Nat.add_assoc _ _ _))⟩))); try go_wp2_with (first | ((with_reducible refine gate_dst (N := 1) rfl ?_); refine box_event ?hg (N := 1) ?hd (cs := #[.int .i64 a0_0, .int .i64 a0_1, .int .i64 a0_2, .int .i64 a0_3, .int .i64 a0_4, .slice A0_5 l0_5.length c0_5, .slice A0_6 l0_6.length c0_6, .slice A0_7 l0_7.length c0_7]) (t := 38) ?hr ?_; (case hd => rfl); (case hg => rfl); (case hr => first | (go_simp; done) | (go_simp; rfl)); intro gb329 hg w8 hbox hb; have n0_ := Z0.mk (bwT (by repeat (first | (with_reducible first | exact HB.out | apply bwA | apply bwN | apply bw1) | exact HB.out)) hb); have n1_ := Z0.mk (hbox); have n2_ := Z0.mk ((by rw [hg]; exact (bwZ (by repeat (first | (with_reducible first | exact HB.out | apply bwA | apply bwN | apply bw1) | exact HB.out))) : w.heap.size ≤ gb329)); have n3_ := Z0.mk ((by rw [hg]; exact (bwZ (by repeat (first | (with_reducible first | exact HB.out | apply bwA | apply bwN | apply bw1) | exact HB.out))) : w.heap.size ≤ gb329)); clear HB; have HB := n0_; have BK329 := n1_; have GW329 := n2_; have GE329 := n3_; clear n0_ n1_ n2_ n3_; clear hb hbox hg; have hcz9_0 : w8.cell? ⟨gb329, 0, none⟩ = some (.int .i64 a0_0) := (bkC BK329.out 0).trans rfl; have hcz9_1 : w8.cell? ⟨gb329, 1, none⟩ = some (.int .i64 a0_1) := (bkC BK329.out 1).trans rfl; have hcz9_2 : w8.cell? ⟨gb329, 2, none⟩ = some (.int .i64 a0_2) := (bkC BK329.out 2).trans rfl; have hcz9_3 : w8.cell? ⟨gb329, 3, none⟩ = some (.int .i64 a0_3) := (bkC BK329.out 3).trans rfl; have hcz9_4 : w8.cell? ⟨gb329, 4, none⟩ = some (.int .i64 a0_4) := (bkC BK329.out 4).trans rfl; have hcz9_5 : w8.cell? ⟨gb329, 5, none⟩ = some (.slice A0_5 l0_5.length c0_5) := (bkC BK329.out 5).trans rfl; have hcz9_6 : w8.cell? ⟨gb329, 6, none⟩ = some (.slice A0_6 l0_6.length c0_6) := (bkC BK329.out 6).trans rfl; have hcz9_7 : w8.cell? ⟨gb329, 7, none⟩ = some (.slice A0_7 l0_7.length c0_7) := (bkC BK329.out 7).trans rfl; have hfz9_0 := bkF BK329.out 0; have hfz9_1 := bkF BK329.out 1; have hfz9_2 := bkF BK329.out 2; have hfz9_3 := bkF BK329.out 3; have hfz9_4 := bkF BK329.out 4; have hfz9_5 := bkF BK329.out 5; have hfz9_6 := bkF BK329.out 6; have hfz9_7 := bkF BK329.out 7) | (go_at_call 40; (with_reducible refine (shape_Pow2.calls k a0_4 t330 t331 _ A3.out).mono ?_); rintro e w' ⟨rfl, ⟨nd, rfl⟩⟩; (try first | exact ⟨rfl, _, World.drewN_drewN _ _ _⟩ | exact ⟨rfl, _, Eq.trans (World.drewN_drewN _ _ _) (congrArg (World.drewN _) (Nat.add_assoc _ _ _))⟩)) | (go_at_call 35; (with_reducible refine (culletref16_Pow2.calls k a0_4 t332 t333 _ A4.out).mono ?_); rintro e w' ⟨rfl, ⟨nd, rfl⟩⟩; (try first | exact ⟨rfl, _, World.drewN_drewN _ _ _⟩ | exact ⟨rfl, _, Eq.trans (World.drewN_drewN _ _ _) (congrArg (World.drewN _) (Nat.add_assoc _ _ _))⟩))))
      go_ret
      exact ⟨by first | rfl | (simp [ewN, ewS] <;> rfl) | (simp [*, ewN, ewS] <;> rfl), by repeat (first | (with_reducible first | exact HB.out | apply bwA | apply bwN | apply bw1 | refine bwS ?_ GE329.out) | exact HB.out)⟩
  · rw [if_neg c2] at H
    have c2b0 : (a0_0 == 1) = false := beq_eq_false_iff_ne.mpr c2
    have c2b1 : (a0_0 != 1) = true := bne_iff_ne.mpr c2
    by_cases c10 : a0_0 = 2
    · rw [if_pos c10] at H
      have c10b0 : (a0_0 == 2) = true := beq_iff_eq.mpr c10
      have c10b1 : (a0_0 != 2) = false := bne_eq_false_iff_eq.mpr c10
      clear c10
      replace H := Option.bind_eq_some_iff.mp H
      obtain ⟨t334, A110, H⟩ := H
      try dsimp only at H
      have A11 := Z0.mk A110
      clear A110
      replace H := Option.bind_eq_some_iff.mp H
      obtain ⟨t335, A120, H⟩ := H
      try dsimp only at H
      have A12 := Z0.mk A120
      clear A120
      obtain rfl := Option.some.inj H
      go_enter Try.func36, Try.ntmps36
      go_wp2_with (first | ((with_reducible refine gate_dst (N := 1) rfl ?_); refine box_event ?hg (N := 1) ?hd (cs := #[.int .i64 a0_0, .int .i64 a0_1, .int .i64 a0_2, .int .i64 a0_3, .int .i64 a0_4, .slice A0_5 l0_5.length c0_5, .slice A0_6 l0_6.length c0_6, .slice A0_7 l0_7.length c0_7]) (t := 38) ?hr ?_; (case hd => rfl); (case hg => rfl); (case hr => first | (go_simp; done) | (go_simp; rfl)); intro gb329 hg w13 hbox hb; have n0_ := Z0.mk (bwT (by repeat (first | (with_reducible first | exact HB.out | apply bwA | apply bwN | apply bw1) | exact HB.out)) hb); have n1_ := Z0.mk (hbox); have n2_ := Z0.mk ((by rw [hg]; exact (bwZ (by repeat (first | (with_reducible first | exact HB.out | apply bwA | apply bwN | apply bw1) | exact HB.out))) : w.heap.size ≤ gb329)); have n3_ := Z0.mk ((by rw [hg]; exact (bwZ (by repeat (first | (with_reducible first | exact HB.out | apply bwA | apply bwN | apply bw1) | exact HB.out))) : w.heap.size ≤ gb329)); clear HB; have HB := n0_; have BK329 := n1_; have GW329 := n2_; have GE329 := n3_; clear n0_ n1_ n2_ n3_; clear hb hbox hg; have hcz14_0 : w13.cell? ⟨gb329, 0, none⟩ = some (.int .i64 a0_0) := (bkC BK329.out 0).trans rfl; have hcz14_1 : w13.cell? ⟨gb329, 1, none⟩ = some (.int .i64 a0_1) := (bkC BK329.out 1).trans rfl; have hcz14_2 : w13.cell? ⟨gb329, 2, none⟩ = some (.int .i64 a0_2) := (bkC BK329.out 2).trans rfl; have hcz14_3 : w13.cell? ⟨gb329, 3, none⟩ = some (.int .i64 a0_3) := (bkC BK329.out 3).trans rfl; have hcz14_4 : w13.cell? ⟨gb329, 4, none⟩ = some (.int .i64 a0_4) := (bkC BK329.out 4).trans rfl; have hcz14_5 : w13.cell? ⟨gb329, 5, none⟩ = some (.slice A0_5 l0_5.length c0_5) := (bkC BK329.out 5).trans rfl; have hcz14_6 : w13.cell? ⟨gb329, 6, none⟩ = some (.slice A0_6 l0_6.length c0_6) := (bkC BK329.out 6).trans rfl; have hcz14_7 : w13.cell? ⟨gb329, 7, none⟩ = some (.slice A0_7 l0_7.length c0_7) := (bkC BK329.out 7).trans rfl; have hfz14_0 := bkF BK329.out 0; have hfz14_1 := bkF BK329.out 1; have hfz14_2 := bkF BK329.out 2; have hfz14_3 := bkF BK329.out 3; have hfz14_4 := bkF BK329.out 4; have hfz14_5 := bkF BK329.out 5; have hfz14_6 := bkF BK329.out 6; have hfz14_7 := bkF BK329.out 7) | (go_at_call 14; (with_reducible refine (shape_Params.calls k a0_1 a0_2 a0_3 t334 _ A11.out).mono ?_); rintro e w' ⟨rfl, ⟨nd, rfl⟩⟩; (try first | exact ⟨rfl, _, World.drewN_drewN _ _ _⟩ | exact ⟨rfl, _, Eq.trans (World.drewN_drewN _ _ _) (congrArg (World.drewN _) (Nat.add_assoc _ _ _))⟩)) | (go_at_call 20; (with_reducible refine (culletref16_Params.calls k a0_1 a0_2 a0_3 t335 _ A12.out).mono ?_); rintro e w' ⟨rfl, ⟨nd, rfl⟩⟩; (try first | exact ⟨rfl, _, World.drewN_drewN _ _ _⟩ | exact ⟨rfl, _, Eq.trans (World.drewN_drewN _ _ _) (congrArg (World.drewN _) (Nat.add_assoc _ _ _))⟩)))
      repeat (go_quiet (first | ((with_reducible refine gate_dst (N := 1) rfl ?_); refine box_event ?hg (N := 1) ?hd (cs := #[.int .i64 a0_0, .int .i64 a0_1, .int .i64 a0_2, .int .i64 a0_3, .int .i64 a0_4, .slice A0_5 l0_5.length c0_5, .slice A0_6 l0_6.length c0_6, .slice A0_7 l0_7.length c0_7]) (t := 38) ?hr ?_; (case hd => rfl); (case hg => rfl); (case hr => first | (go_simp; done) | (go_simp; rfl)); intro gb329 hg w13 hbox hb; have n0_ := Z0.mk (bwT (by repeat (first | (with_reducible first | exact HB.out | apply bwA | apply bwN | apply bw1) | exact HB.out)) hb); have n1_ := Z0.mk (hbox); have n2_ := Z0.mk ((by rw [hg]; exact (bwZ (by repeat (first | (with_reducible first | exact HB.out | apply bwA | apply bwN | apply bw1) | exact HB.out))) : w.heap.size ≤ gb329)); have n3_ := Z0.mk ((by rw [hg]; exact (bwZ (by repeat (first | (with_reducible first | exact HB.out | apply bwA | apply bwN | apply bw1) | exact HB.out))) : w.heap.size ≤ gb329)); clear HB; have HB := n0_; have BK329 := n1_; have GW329 := n2_; have GE329 := n3_; clear n0_ n1_ n2_ n3_; clear hb hbox hg; have hcz14_0 : w13.cell? ⟨gb329, 0, none⟩ = some (.int .i64 a0_0) := (bkC BK329.out 0).trans rfl; have hcz14_1 : w13.cell? ⟨gb329, 1, none⟩ = some (.int .i64 a0_1) := (bkC BK329.out 1).trans rfl; have hcz14_2 : w13.cell? ⟨gb329, 2, none⟩ = some (.int .i64 a0_2) := (bkC BK329.out 2).trans rfl; have hcz14_3 : w13.cell? ⟨gb329, 3, none⟩ = some (.int .i64 a0_3) := (bkC BK329.out 3).trans rfl; have hcz14_4 : w13.cell? ⟨gb329, 4, none⟩ = some (.int .i64 a0_4) := (bkC BK329.out 4).trans rfl; have hcz14_5 : w13.cell? ⟨gb329, 5, none⟩ = some (.slice A0_5 l0_5.length c0_5) := (bkC BK329.out 5).trans rfl; have hcz14_6 : w13.cell? ⟨gb329, 6, none⟩ = some (.slice A0_6 l0_6.length c0_6) := (bkC BK329.out 6).trans rfl; have hcz14_7 : w13.cell? ⟨gb329, 7, none⟩ = some (.slice A0_7 l0_7.length c0_7) := (bkC BK329.out 7).trans rfl; have hfz14_0 := bkF BK329.out 0; have hfz14_1 := bkF BK329.out 1; have hfz14_2 := bkF BK329.out 2; have hfz14_3 := bkF BK329.out 3; have hfz14_4 := bkF BK329.out 4; have hfz14_5 := bkF BK329.out 5; have hfz14_6 := bkF BK329.out 6; have hfz14_7 := bkF BK329.out 7) | (go_at_call 14; (with_reducible refine (shape_Params.calls k a0_1 a0_2 a0_3 t334 _ A11.out).mono ?_); rintro e w' ⟨rfl, ⟨nd, rfl⟩⟩; (try first | exact ⟨rfl, _, World.drewN_drewN _ _ _⟩ | exact ⟨rfl, _, Eq.trans (World.drewN_drewN _ _ _) (congrArg (World.drewN _) (Nat.add_assoc _ _ _))⟩)) | (go_at_call 20; (with_reducible refine (culletref16_Params.calls k a0_1 a0_2 a0_3 t335 _ A12.out).mono ?_); rintro e w' ⟨rfl, ⟨nd, rfl⟩⟩; (try first | exact ⟨rfl, _, World.drewN_drewN _ _ _⟩ | exact ⟨rfl, _, Eq.trans (World.drewN_drewN _ _ _) (congrArg (World.drewN _) (Nat.add_assoc _ _ _))⟩))); try go_wp2_with (first | ((with_reducible refine gate_dst (N := 1) rfl ?_); refine box_event ?hg (N := 1) ?hd (cs := #[.int .i64 a0_0, .int .i64 a0_1, .int .i64 a0_2, .int .i64 a0_3, .int .i64 a0_4, .slice A0_5 l0_5.length c0_5, .slice A0_6 l0_6.length c0_6, .slice A0_7 l0_7.length c0_7]) (t := 38) ?hr ?_; (case hd => rfl); (case hg => rfl); (case hr => first | (go_simp; done) | (go_simp; rfl)); intro gb329 hg w13 hbox hb; have n0_ := Z0.mk (bwT (by repeat (first | (with_reducible first | exact HB.out | apply bwA | apply bwN | apply bw1) | exact HB.out)) hb); have n1_ := Z0.mk (hbox); have n2_ := Z0.mk ((by rw [hg]; exact (bwZ (by repeat (first | (with_reducible first | exact HB.out | apply bwA | apply bwN | apply bw1) | exact HB.out))) : w.heap.size ≤ gb329)); have n3_ := Z0.mk ((by rw [hg]; exact (bwZ (by repeat (first | (with_reducible first | exact HB.out | apply bwA | apply bwN | apply bw1) | exact HB.out))) : w.heap.size ≤ gb329)); clear HB; have HB := n0_; have BK329 := n1_; have GW329 := n2_; have GE329 := n3_; clear n0_ n1_ n2_ n3_; clear hb hbox hg; have hcz14_0 : w13.cell? ⟨gb329, 0, none⟩ = some (.int .i64 a0_0) := (bkC BK329.out 0).trans rfl; have hcz14_1 : w13.cell? ⟨gb329, 1, none⟩ = some (.int .i64 a0_1) := (bkC BK329.out 1).trans rfl; have hcz14_2 : w13.cell? ⟨gb329, 2, none⟩ = some (.int .i64 a0_2) := (bkC BK329.out 2).trans rfl; have hcz14_3 : w13.cell? ⟨gb329, 3, none⟩ = some (.int .i64 a0_3) := (bkC BK329.out 3).trans rfl; have hcz14_4 : w13.cell? ⟨gb329, 4, none⟩ = some (.int .i64 a0_4) := (bkC BK329.out 4).trans rfl; have hcz14_5 : w13.cell? ⟨gb329, 5, none⟩ = some (.slice A0_5 l0_5.length c0_5) := (bkC BK329.out 5).trans rfl; have hcz14_6 : w13.cell? ⟨gb329, 6, none⟩ = some (.slice A0_6 l0_6.length c0_6) := (bkC BK329.out 6).trans rfl; have hcz14_7 : w13.cell? ⟨gb329, 7, none⟩ = some (.slice A0_7 l0_7.length c0_7) := (bkC BK329.out 7).trans rfl; have hfz14_0 := bkF BK329.out 0; have hfz14_1 := bkF BK329.out 1; have hfz14_2 := bkF BK329.out 2; have hfz14_3 := bkF BK329.out 3; have hfz14_4 := bkF BK329.out 4; have hfz14_5 := bkF BK329.out 5; have hfz14_6 := bkF BK329.out 6; have hfz14_7 := bkF BK329.out 7) | (go_at_call 14; (with_reducible refine (shape_Params.calls k a0_1 a0_2 a0_3 t334 _ A11.out).mono ?_); rintro e w' ⟨rfl, ⟨nd, rfl⟩⟩; (try first | exact ⟨rfl, _, World.drewN_drewN _ _ _⟩ | exact ⟨rfl, _, Eq.trans (World.drewN_drewN _ _ _) (congrArg (World.drewN _) (Nat.add_assoc _ _ _))⟩)) | (go_at_call 20; (with_reducible refine (culletref16_Params.calls k a0_1 a0_2 a0_3 t335 _ A12.out).mono ?_); rintro e w' ⟨rfl, ⟨nd, rfl⟩⟩; (try first | exact ⟨rfl, _, World.drewN_drewN _ _ _⟩ | exact ⟨rfl, _, Eq.trans (World.drewN_drewN _ _ _) (congrArg (World.drewN _) (Nat.add_assoc _ _ _))⟩))))
      go_ret
      exact ⟨by first | rfl | (simp [ewN, ewS] <;> rfl) | (simp [*, ewN, ewS] <;> rfl), by repeat (first | (with_reducible first | exact HB.out | apply bwA | apply bwN | apply bw1 | refine bwS ?_ GE329.out) | exact HB.out)⟩
    · rw [if_neg c10] at H
      have c10b0 : (a0_0 == 2) = false := beq_eq_false_iff_ne.mpr c10
      have c10b1 : (a0_0 != 2) = true := bne_iff_ne.mpr c10
      by_cases c15 : a0_0 = 3
      · rw [if_pos c15] at H
        have c15b0 : (a0_0 == 3) = true := beq_iff_eq.mpr c15
        have c15b1 : (a0_0 != 3) = false := bne_eq_false_iff_eq.mpr c15
        clear c15
        replace H := Option.bind_eq_some_iff.mp H
        obtain ⟨t336, A160, H⟩ := H
        try dsimp only at H
        have A16 := Z0.mk A160
        clear A160
        replace H := Option.bind_eq_some_iff.mp H
        obtain ⟨t337, A170, H⟩ := H
        try dsimp only at H
        have A17 := Z0.mk A170
        clear A170
        obtain rfl := Option.some.inj H
        go_enter Try.func36, Try.ntmps36
        go_wp2_with (first | ((with_reducible refine gate_dst (N := 1) rfl ?_); refine box_event ?hg (N := 1) ?hd (cs := #[.int .i64 a0_0, .int .i64 a0_1, .int .i64 a0_2, .int .i64 a0_3, .int .i64 a0_4, .slice A0_5 l0_5.length c0_5, .slice A0_6 l0_6.length c0_6, .slice A0_7 l0_7.length c0_7]) (t := 38) ?hr ?_; (case hd => rfl); (case hg => rfl); (case hr => first | (go_simp; done) | (go_simp; rfl)); intro gb329 hg w18 hbox hb; have n0_ := Z0.mk (bwT (by repeat (first | (with_reducible first | exact HB.out | apply bwA | apply bwN | apply bw1) | exact HB.out)) hb); have n1_ := Z0.mk (hbox); have n2_ := Z0.mk ((by rw [hg]; exact (bwZ (by repeat (first | (with_reducible first | exact HB.out | apply bwA | apply bwN | apply bw1) | exact HB.out))) : w.heap.size ≤ gb329)); have n3_ := Z0.mk ((by rw [hg]; exact (bwZ (by repeat (first | (with_reducible first | exact HB.out | apply bwA | apply bwN | apply bw1) | exact HB.out))) : w.heap.size ≤ gb329)); clear HB; have HB := n0_; have BK329 := n1_; have GW329 := n2_; have GE329 := n3_; clear n0_ n1_ n2_ n3_; clear hb hbox hg; have hcz19_0 : w18.cell? ⟨gb329, 0, none⟩ = some (.int .i64 a0_0) := (bkC BK329.out 0).trans rfl; have hcz19_1 : w18.cell? ⟨gb329, 1, none⟩ = some (.int .i64 a0_1) := (bkC BK329.out 1).trans rfl; have hcz19_2 : w18.cell? ⟨gb329, 2, none⟩ = some (.int .i64 a0_2) := (bkC BK329.out 2).trans rfl; have hcz19_3 : w18.cell? ⟨gb329, 3, none⟩ = some (.int .i64 a0_3) := (bkC BK329.out 3).trans rfl; have hcz19_4 : w18.cell? ⟨gb329, 4, none⟩ = some (.int .i64 a0_4) := (bkC BK329.out 4).trans rfl; have hcz19_5 : w18.cell? ⟨gb329, 5, none⟩ = some (.slice A0_5 l0_5.length c0_5) := (bkC BK329.out 5).trans rfl; have hcz19_6 : w18.cell? ⟨gb329, 6, none⟩ = some (.slice A0_6 l0_6.length c0_6) := (bkC BK329.out 6).trans rfl; have hcz19_7 : w18.cell? ⟨gb329, 7, none⟩ = some (.slice A0_7 l0_7.length c0_7) := (bkC BK329.out 7).trans rfl; have hfz19_0 := bkF BK329.out 0; have hfz19_1 := bkF BK329.out 1; have hfz19_2 := bkF BK329.out 2; have hfz19_3 := bkF BK329.out 3; have hfz19_4 := bkF BK329.out 4; have hfz19_5 := bkF BK329.out 5; have hfz19_6 := bkF BK329.out 6; have hfz19_7 := bkF BK329.out 7) | (go_at_call 41; (with_reducible refine (shape_Uses.calls k a0_1 a0_4 t336 _ A16.out).mono ?_); rintro e w' ⟨rfl, ⟨nd, rfl⟩⟩; (try first | exact ⟨rfl, _, World.drewN_drewN _ _ _⟩ | exact ⟨rfl, _, Eq.trans (World.drewN_drewN _ _ _) (congrArg (World.drewN _) (Nat.add_assoc _ _ _))⟩)) | (go_at_call 42; (with_reducible refine (culletref16_Uses.calls k a0_1 a0_4 t337 _ A17.out).mono ?_); rintro e w' ⟨rfl, ⟨nd, rfl⟩⟩; (try first | exact ⟨rfl, _, World.drewN_drewN _ _ _⟩ | exact ⟨rfl, _, Eq.trans (World.drewN_drewN _ _ _) (congrArg (World.drewN _) (Nat.add_assoc _ _ _))⟩)))
        repeat (go_quiet (first | ((with_reducible refine gate_dst (N := 1) rfl ?_); refine box_event ?hg (N := 1) ?hd (cs := #[.int .i64 a0_0, .int .i64 a0_1, .int .i64 a0_2, .int .i64 a0_3, .int .i64 a0_4, .slice A0_5 l0_5.length c0_5, .slice A0_6 l0_6.length c0_6, .slice A0_7 l0_7.length c0_7]) (t := 38) ?hr ?_; (case hd => rfl); (case hg => rfl); (case hr => first | (go_simp; done) | (go_simp; rfl)); intro gb329 hg w18 hbox hb; have n0_ := Z0.mk (bwT (by repeat (first | (with_reducible first | exact HB.out | apply bwA | apply bwN | apply bw1) | exact HB.out)) hb); have n1_ := Z0.mk (hbox); have n2_ := Z0.mk ((by rw [hg]; exact (bwZ (by repeat (first | (with_reducible first | exact HB.out | apply bwA | apply bwN | apply bw1) | exact HB.out))) : w.heap.size ≤ gb329)); have n3_ := Z0.mk ((by rw [hg]; exact (bwZ (by repeat (first | (with_reducible first | exact HB.out | apply bwA | apply bwN | apply bw1) | exact HB.out))) : w.heap.size ≤ gb329)); clear HB; have HB := n0_; have BK329 := n1_; have GW329 := n2_; have GE329 := n3_; clear n0_ n1_ n2_ n3_; clear hb hbox hg; have hcz19_0 : w18.cell? ⟨gb329, 0, none⟩ = some (.int .i64 a0_0) := (bkC BK329.out 0).trans rfl; have hcz19_1 : w18.cell? ⟨gb329, 1, none⟩ = some (.int .i64 a0_1) := (bkC BK329.out 1).trans rfl; have hcz19_2 : w18.cell? ⟨gb329, 2, none⟩ = some (.int .i64 a0_2) := (bkC BK329.out 2).trans rfl; have hcz19_3 : w18.cell? ⟨gb329, 3, none⟩ = some (.int .i64 a0_3) := (bkC BK329.out 3).trans rfl; have hcz19_4 : w18.cell? ⟨gb329, 4, none⟩ = some (.int .i64 a0_4) := (bkC BK329.out 4).trans rfl; have hcz19_5 : w18.cell? ⟨gb329, 5, none⟩ = some (.slice A0_5 l0_5.length c0_5) := (bkC BK329.out 5).trans rfl; have hcz19_6 : w18.cell? ⟨gb329, 6, none⟩ = some (.slice A0_6 l0_6.length c0_6) := (bkC BK329.out 6).trans rfl; have hcz19_7 : w18.cell? ⟨gb329, 7, none⟩ = some (.slice A0_7 l0_7.length c0_7) := (bkC BK329.out 7).trans rfl; have hfz19_0 := bkF BK329.out 0; have hfz19_1 := bkF BK329.out 1; have hfz19_2 := bkF BK329.out 2; have hfz19_3 := bkF BK329.out 3; have hfz19_4 := bkF BK329.out 4; have hfz19_5 := bkF BK329.out 5; have hfz19_6 := bkF BK329.out 6; have hfz19_7 := bkF BK329.out 7) | (go_at_call 41; (with_reducible refine (shape_Uses.calls k a0_1 a0_4 t336 _ A16.out).mono ?_); rintro e w' ⟨rfl, ⟨nd, rfl⟩⟩; (try first | exact ⟨rfl, _, World.drewN_drewN _ _ _⟩ | exact ⟨rfl, _, Eq.trans (World.drewN_drewN _ _ _) (congrArg (World.drewN _) (Nat.add_assoc _ _ _))⟩)) | (go_at_call 42; (with_reducible refine (culletref16_Uses.calls k a0_1 a0_4 t337 _ A17.out).mono ?_); rintro e w' ⟨rfl, ⟨nd, rfl⟩⟩; (try first | exact ⟨rfl, _, World.drewN_drewN _ _ _⟩ | exact ⟨rfl, _, Eq.trans (World.drewN_drewN _ _ _) (congrArg (World.drewN _) (Nat.add_assoc _ _ _))⟩))); try go_wp2_with (first | ((with_reducible refine gate_dst (N := 1) rfl ?_); refine box_event ?hg (N := 1) ?hd (cs := #[.int .i64 a0_0, .int .i64 a0_1, .int .i64 a0_2, .int .i64 a0_3, .int .i64 a0_4, .slice A0_5 l0_5.length c0_5, .slice A0_6 l0_6.length c0_6, .slice A0_7 l0_7.length c0_7]) (t := 38) ?hr ?_; (case hd => rfl); (case hg => rfl); (case hr => first | (go_simp; done) | (go_simp; rfl)); intro gb329 hg w18 hbox hb; have n0_ := Z0.mk (bwT (by repeat (first | (with_reducible first | exact HB.out | apply bwA | apply bwN | apply bw1) | exact HB.out)) hb); have n1_ := Z0.mk (hbox); have n2_ := Z0.mk ((by rw [hg]; exact (bwZ (by repeat (first | (with_reducible first | exact HB.out | apply bwA | apply bwN | apply bw1) | exact HB.out))) : w.heap.size ≤ gb329)); have n3_ := Z0.mk ((by rw [hg]; exact (bwZ (by repeat (first | (with_reducible first | exact HB.out | apply bwA | apply bwN | apply bw1) | exact HB.out))) : w.heap.size ≤ gb329)); clear HB; have HB := n0_; have BK329 := n1_; have GW329 := n2_; have GE329 := n3_; clear n0_ n1_ n2_ n3_; clear hb hbox hg; have hcz19_0 : w18.cell? ⟨gb329, 0, none⟩ = some (.int .i64 a0_0) := (bkC BK329.out 0).trans rfl; have hcz19_1 : w18.cell? ⟨gb329, 1, none⟩ = some (.int .i64 a0_1) := (bkC BK329.out 1).trans rfl; have hcz19_2 : w18.cell? ⟨gb329, 2, none⟩ = some (.int .i64 a0_2) := (bkC BK329.out 2).trans rfl; have hcz19_3 : w18.cell? ⟨gb329, 3, none⟩ = some (.int .i64 a0_3) := (bkC BK329.out 3).trans rfl; have hcz19_4 : w18.cell? ⟨gb329, 4, none⟩ = some (.int .i64 a0_4) := (bkC BK329.out 4).trans rfl; have hcz19_5 : w18.cell? ⟨gb329, 5, none⟩ = some (.slice A0_5 l0_5.length c0_5) := (bkC BK329.out 5).trans rfl; have hcz19_6 : w18.cell? ⟨gb329, 6, none⟩ = some (.slice A0_6 l0_6.length c0_6) := (bkC BK329.out 6).trans rfl; have hcz19_7 : w18.cell? ⟨gb329, 7, none⟩ = some (.slice A0_7 l0_7.length c0_7) := (bkC BK329.out 7).trans rfl; have hfz19_0 := bkF BK329.out 0; have hfz19_1 := bkF BK329.out 1; have hfz19_2 := bkF BK329.out 2; have hfz19_3 := bkF BK329.out 3; have hfz19_4 := bkF BK329.out 4; have hfz19_5 := bkF BK329.out 5; have hfz19_6 := bkF BK329.out 6; have hfz19_7 := bkF BK329.out 7) | (go_at_call 41; (with_reducible refine (shape_Uses.calls k a0_1 a0_4 t336 _ A16.out).mono ?_); rintro e w' ⟨rfl, ⟨nd, rfl⟩⟩; (try first | exact ⟨rfl, _, World.drewN_drewN _ _ _⟩ | exact ⟨rfl, _, Eq.trans (World.drewN_drewN _ _ _) (congrArg (World.drewN _) (Nat.add_assoc _ _ _))⟩)) | (go_at_call 42; (with_reducible refine (culletref16_Uses.calls k a0_1 a0_4 t337 _ A17.out).mono ?_); rintro e w' ⟨rfl, ⟨nd, rfl⟩⟩; (try first | exact ⟨rfl, _, World.drewN_drewN _ _ _⟩ | exact ⟨rfl, _, Eq.trans (World.drewN_drewN _ _ _) (congrArg (World.drewN _) (Nat.add_assoc _ _ _))⟩))))
        go_ret
        exact ⟨by first | rfl | (simp [ewN, ewS] <;> rfl) | (simp [*, ewN, ewS] <;> rfl), by repeat (first | (with_reducible first | exact HB.out | apply bwA | apply bwN | apply bw1 | refine bwS ?_ GE329.out) | exact HB.out)⟩
      · rw [if_neg c15] at H
        have c15b0 : (a0_0 == 3) = false := beq_eq_false_iff_ne.mpr c15
        have c15b1 : (a0_0 != 3) = true := bne_iff_ne.mpr c15
        replace H := Option.bind_eq_some_iff.mp H
        obtain ⟨⟨t338, t339⟩, A200, H⟩ := H
        dsimp only at H
        have A20 := Z0.mk A200
        clear A200
        replace H := Option.bind_eq_some_iff.mp H
        obtain ⟨⟨t340, t341⟩, A210, H⟩ := H
        dsimp only at H
        have A21 := Z0.mk A210
        clear A210
        by_cases c22 : t338 = t340
        · rw [if_pos c22] at H
          have c22b0 : (t338 == t340) = true := beq_iff_eq.mpr c22
          have c22b1 : (t338 != t340) = false := bne_eq_false_iff_eq.mpr c22
          clear c22
          obtain rfl := Option.some.inj H
          go_enter Try.func36, Try.ntmps36
          go_wp2_with (first | ((with_reducible refine gate_dst (N := 1) rfl ?_); refine box_event ?hg (N := 1) ?hd (cs := #[.int .i64 a0_0, .int .i64 a0_1, .int .i64 a0_2, .int .i64 a0_3, .int .i64 a0_4, .slice A0_5 l0_5.length c0_5, .slice A0_6 l0_6.length c0_6, .slice A0_7 l0_7.length c0_7]) (t := 38) ?hr ?_; (case hd => rfl); (case hg => rfl); (case hr => first | (go_simp; done) | (go_simp; rfl)); intro gb329 hg w23 hbox hb; have n0_ := Z0.mk (bwT (by repeat (first | (with_reducible first | exact HB.out | apply bwA | apply bwN | apply bw1) | exact HB.out)) hb); have n1_ := Z0.mk (hbox); have n2_ := Z0.mk ((by rw [hg]; exact (bwZ (by repeat (first | (with_reducible first | exact HB.out | apply bwA | apply bwN | apply bw1) | exact HB.out))) : w.heap.size ≤ gb329)); have n3_ := Z0.mk ((by rw [hg]; exact (bwZ (by repeat (first | (with_reducible first | exact HB.out | apply bwA | apply bwN | apply bw1) | exact HB.out))) : w.heap.size ≤ gb329)); clear HB; have HB := n0_; have BK329 := n1_; have GW329 := n2_; have GE329 := n3_; clear n0_ n1_ n2_ n3_; clear hb hbox hg; have hcz24_0 : w23.cell? ⟨gb329, 0, none⟩ = some (.int .i64 a0_0) := (bkC BK329.out 0).trans rfl; have hcz24_1 : w23.cell? ⟨gb329, 1, none⟩ = some (.int .i64 a0_1) := (bkC BK329.out 1).trans rfl; have hcz24_2 : w23.cell? ⟨gb329, 2, none⟩ = some (.int .i64 a0_2) := (bkC BK329.out 2).trans rfl; have hcz24_3 : w23.cell? ⟨gb329, 3, none⟩ = some (.int .i64 a0_3) := (bkC BK329.out 3).trans rfl; have hcz24_4 : w23.cell? ⟨gb329, 4, none⟩ = some (.int .i64 a0_4) := (bkC BK329.out 4).trans rfl; have hcz24_5 : w23.cell? ⟨gb329, 5, none⟩ = some (.slice A0_5 l0_5.length c0_5) := (bkC BK329.out 5).trans rfl; have hcz24_6 : w23.cell? ⟨gb329, 6, none⟩ = some (.slice A0_6 l0_6.length c0_6) := (bkC BK329.out 6).trans rfl; have hcz24_7 : w23.cell? ⟨gb329, 7, none⟩ = some (.slice A0_7 l0_7.length c0_7) := (bkC BK329.out 7).trans rfl; have hfz24_0 := bkF BK329.out 0; have hfz24_1 := bkF BK329.out 1; have hfz24_2 := bkF BK329.out 2; have hfz24_3 := bkF BK329.out 3; have hfz24_4 := bkF BK329.out 4; have hfz24_5 := bkF BK329.out 5; have hfz24_6 := bkF BK329.out 6; have hfz24_7 := bkF BK329.out 7) | (go_at_call 15; (with_reducible refine (shape_Length.calls k a0_1 a0_2 a0_3 a0_4 t338 t339 _ A20.out).mono ?_); rintro e w' ⟨rfl, ⟨nd, rfl⟩⟩; (try first | exact ⟨rfl, _, World.drewN_drewN _ _ _⟩ | exact ⟨rfl, _, Eq.trans (World.drewN_drewN _ _ _) (congrArg (World.drewN _) (Nat.add_assoc _ _ _))⟩)) | (go_at_call 32; (with_reducible refine (culletref16_Length.calls k a0_1 a0_2 a0_3 a0_4 t340 t341 _ A21.out).mono ?_); rintro e w' ⟨rfl, ⟨nd, rfl⟩⟩; (try first | exact ⟨rfl, _, World.drewN_drewN _ _ _⟩ | exact ⟨rfl, _, Eq.trans (World.drewN_drewN _ _ _) (congrArg (World.drewN _) (Nat.add_assoc _ _ _))⟩)))
          repeat (go_quiet (first | ((with_reducible refine gate_dst (N := 1) rfl ?_); refine box_event ?hg (N := 1) ?hd (cs := #[.int .i64 a0_0, .int .i64 a0_1, .int .i64 a0_2, .int .i64 a0_3, .int .i64 a0_4, .slice A0_5 l0_5.length c0_5, .slice A0_6 l0_6.length c0_6, .slice A0_7 l0_7.length c0_7]) (t := 38) ?hr ?_; (case hd => rfl); (case hg => rfl); (case hr => first | (go_simp; done) | (go_simp; rfl)); intro gb329 hg w23 hbox hb; have n0_ := Z0.mk (bwT (by repeat (first | (with_reducible first | exact HB.out | apply bwA | apply bwN | apply bw1) | exact HB.out)) hb); have n1_ := Z0.mk (hbox); have n2_ := Z0.mk ((by rw [hg]; exact (bwZ (by repeat (first | (with_reducible first | exact HB.out | apply bwA | apply bwN | apply bw1) | exact HB.out))) : w.heap.size ≤ gb329)); have n3_ := Z0.mk ((by rw [hg]; exact (bwZ (by repeat (first | (with_reducible first | exact HB.out | apply bwA | apply bwN | apply bw1) | exact HB.out))) : w.heap.size ≤ gb329)); clear HB; have HB := n0_; have BK329 := n1_; have GW329 := n2_; have GE329 := n3_; clear n0_ n1_ n2_ n3_; clear hb hbox hg; have hcz24_0 : w23.cell? ⟨gb329, 0, none⟩ = some (.int .i64 a0_0) := (bkC BK329.out 0).trans rfl; have hcz24_1 : w23.cell? ⟨gb329, 1, none⟩ = some (.int .i64 a0_1) := (bkC BK329.out 1).trans rfl; have hcz24_2 : w23.cell? ⟨gb329, 2, none⟩ = some (.int .i64 a0_2) := (bkC BK329.out 2).trans rfl; have hcz24_3 : w23.cell? ⟨gb329, 3, none⟩ = some (.int .i64 a0_3) := (bkC BK329.out 3).trans rfl; have hcz24_4 : w23.cell? ⟨gb329, 4, none⟩ = some (.int .i64 a0_4) := (bkC BK329.out 4).trans rfl; have hcz24_5 : w23.cell? ⟨gb329, 5, none⟩ = some (.slice A0_5 l0_5.length c0_5) := (bkC BK329.out 5).trans rfl; have hcz24_6 : w23.cell? ⟨gb329, 6, none⟩ = some (.slice A0_6 l0_6.length c0_6) := (bkC BK329.out 6).trans rfl; have hcz24_7 : w23.cell? ⟨gb329, 7, none⟩ = some (.slice A0_7 l0_7.length c0_7) := (bkC BK329.out 7).trans rfl; have hfz24_0 := bkF BK329.out 0; have hfz24_1 := bkF BK329.out 1; have hfz24_2 := bkF BK329.out 2; have hfz24_3 := bkF BK329.out 3; have hfz24_4 := bkF BK329.out 4; have hfz24_5 := bkF BK329.out 5; have hfz24_6 := bkF BK329.out 6; have hfz24_7 := bkF BK329.out 7) | (go_at_call 15; (with_reducible refine (shape_Length.calls k a0_1 a0_2 a0_3 a0_4 t338 t339 _ A20.out).mono ?_); rintro e w' ⟨rfl, ⟨nd, rfl⟩⟩; (try first | exact ⟨rfl, _, World.drewN_drewN _ _ _⟩ | exact ⟨rfl, _, Eq.trans (World.drewN_drewN _ _ _) (congrArg (World.drewN _) (Nat.add_assoc _ _ _))⟩)) | (go_at_call 32; (with_reducible refine (culletref16_Length.calls k a0_1 a0_2 a0_3 a0_4 t340 t341 _ A21.out).mono ?_); rintro e w' ⟨rfl, ⟨nd, rfl⟩⟩; (try first | exact ⟨rfl, _, World.drewN_drewN _ _ _⟩ | exact ⟨rfl, _, Eq.trans (World.drewN_drewN _ _ _) (congrArg (World.drewN _) (Nat.add_assoc _ _ _))⟩))); try go_wp2_with (first | ((with_reducible refine gate_dst (N := 1) rfl ?_); refine box_event ?hg (N := 1) ?hd (cs := #[.int .i64 a0_0, .int .i64 a0_1, .int .i64 a0_2, .int .i64 a0_3, .int .i64 a0_4, .slice A0_5 l0_5.length c0_5, .slice A0_6 l0_6.length c0_6, .slice A0_7 l0_7.length c0_7]) (t := 38) ?hr ?_; (case hd => rfl); (case hg => rfl); (case hr => first | (go_simp; done) | (go_simp; rfl)); intro gb329 hg w23 hbox hb; have n0_ := Z0.mk (bwT (by repeat (first | (with_reducible first | exact HB.out | apply bwA | apply bwN | apply bw1) | exact HB.out)) hb); have n1_ := Z0.mk (hbox); have n2_ := Z0.mk ((by rw [hg]; exact (bwZ (by repeat (first | (with_reducible first | exact HB.out | apply bwA | apply bwN | apply bw1) | exact HB.out))) : w.heap.size ≤ gb329)); have n3_ := Z0.mk ((by rw [hg]; exact (bwZ (by repeat (first | (with_reducible first | exact HB.out | apply bwA | apply bwN | apply bw1) | exact HB.out))) : w.heap.size ≤ gb329)); clear HB; have HB := n0_; have BK329 := n1_; have GW329 := n2_; have GE329 := n3_; clear n0_ n1_ n2_ n3_; clear hb hbox hg; have hcz24_0 : w23.cell? ⟨gb329, 0, none⟩ = some (.int .i64 a0_0) := (bkC BK329.out 0).trans rfl; have hcz24_1 : w23.cell? ⟨gb329, 1, none⟩ = some (.int .i64 a0_1) := (bkC BK329.out 1).trans rfl; have hcz24_2 : w23.cell? ⟨gb329, 2, none⟩ = some (.int .i64 a0_2) := (bkC BK329.out 2).trans rfl; have hcz24_3 : w23.cell? ⟨gb329, 3, none⟩ = some (.int .i64 a0_3) := (bkC BK329.out 3).trans rfl; have hcz24_4 : w23.cell? ⟨gb329, 4, none⟩ = some (.int .i64 a0_4) := (bkC BK329.out 4).trans rfl; have hcz24_5 : w23.cell? ⟨gb329, 5, none⟩ = some (.slice A0_5 l0_5.length c0_5) := (bkC BK329.out 5).trans rfl; have hcz24_6 : w23.cell? ⟨gb329, 6, none⟩ = some (.slice A0_6 l0_6.length c0_6) := (bkC BK329.out 6).trans rfl; have hcz24_7 : w23.cell? ⟨gb329, 7, none⟩ = some (.slice A0_7 l0_7.length c0_7) := (bkC BK329.out 7).trans rfl; have hfz24_0 := bkF BK329.out 0; have hfz24_1 := bkF BK329.out 1; have hfz24_2 := bkF BK329.out 2; have hfz24_3 := bkF BK329.out 3; have hfz24_4 := bkF BK329.out 4; have hfz24_5 := bkF BK329.out 5; have hfz24_6 := bkF BK329.out 6; have hfz24_7 := bkF BK329.out 7) | (go_at_call 15; (with_reducible refine (shape_Length.calls k a0_1 a0_2 a0_3 a0_4 t338 t339 _ A20.out).mono ?_); rintro e w' ⟨rfl, ⟨nd, rfl⟩⟩; (try first | exact ⟨rfl, _, World.drewN_drewN _ _ _⟩ | exact ⟨rfl, _, Eq.trans (World.drewN_drewN _ _ _) (congrArg (World.drewN _) (Nat.add_assoc _ _ _))⟩)) | (go_at_call 32; (with_reducible refine (culletref16_Length.calls k a0_1 a0_2 a0_3 a0_4 t340 t341 _ A21.out).mono ?_); rintro e w' ⟨rfl, ⟨nd, rfl⟩⟩; (try first | exact ⟨rfl, _, World.drewN_drewN _ _ _⟩ | exact ⟨rfl, _, Eq.trans (World.drewN_drewN _ _ _) (congrArg (World.drewN _) (Nat.add_assoc _ _ _))⟩))))
          go_ret
          exact ⟨by first | rfl | (simp [ewN, ewS] <;> rfl) | (simp [*, ewN, ewS] <;> rfl), by repeat (first | (with_reducible first | exact HB.out | apply bwA | apply bwN | apply bw1 | refine bwS ?_ GE329.out) | exact HB.out)⟩
        · rw [if_neg c22] at H
          have c22b0 : (t338 == t340) = false := beq_eq_false_iff_ne.mpr c22
          have c22b1 : (t338 != t340) = true := bne_iff_ne.mpr c22
          obtain rfl := Option.some.inj H
          go_enter Try.func36, Try.ntmps36
          go_wp2_with (first | ((with_reducible refine gate_dst (N := 1) rfl ?_); refine box_event ?hg (N := 1) ?hd (cs := #[.int .i64 a0_0, .int .i64 a0_1, .int .i64 a0_2, .int .i64 a0_3, .int .i64 a0_4, .slice A0_5 l0_5.length c0_5, .slice A0_6 l0_6.length c0_6, .slice A0_7 l0_7.length c0_7]) (t := 38) ?hr ?_; (case hd => rfl); (case hg => rfl); (case hr => first | (go_simp; done) | (go_simp; rfl)); intro gb329 hg w25 hbox hb; have n0_ := Z0.mk (bwT (by repeat (first | (with_reducible first | exact HB.out | apply bwA | apply bwN | apply bw1) | exact HB.out)) hb); have n1_ := Z0.mk (hbox); have n2_ := Z0.mk ((by rw [hg]; exact (bwZ (by repeat (first | (with_reducible first | exact HB.out | apply bwA | apply bwN | apply bw1) | exact HB.out))) : w.heap.size ≤ gb329)); have n3_ := Z0.mk ((by rw [hg]; exact (bwZ (by repeat (first | (with_reducible first | exact HB.out | apply bwA | apply bwN | apply bw1) | exact HB.out))) : w.heap.size ≤ gb329)); clear HB; have HB := n0_; have BK329 := n1_; have GW329 := n2_; have GE329 := n3_; clear n0_ n1_ n2_ n3_; clear hb hbox hg; have hcz26_0 : w25.cell? ⟨gb329, 0, none⟩ = some (.int .i64 a0_0) := (bkC BK329.out 0).trans rfl; have hcz26_1 : w25.cell? ⟨gb329, 1, none⟩ = some (.int .i64 a0_1) := (bkC BK329.out 1).trans rfl; have hcz26_2 : w25.cell? ⟨gb329, 2, none⟩ = some (.int .i64 a0_2) := (bkC BK329.out 2).trans rfl; have hcz26_3 : w25.cell? ⟨gb329, 3, none⟩ = some (.int .i64 a0_3) := (bkC BK329.out 3).trans rfl; have hcz26_4 : w25.cell? ⟨gb329, 4, none⟩ = some (.int .i64 a0_4) := (bkC BK329.out 4).trans rfl; have hcz26_5 : w25.cell? ⟨gb329, 5, none⟩ = some (.slice A0_5 l0_5.length c0_5) := (bkC BK329.out 5).trans rfl; have hcz26_6 : w25.cell? ⟨gb329, 6, none⟩ = some (.slice A0_6 l0_6.length c0_6) := (bkC BK329.out 6).trans rfl; have hcz26_7 : w25.cell? ⟨gb329, 7, none⟩ = some (.slice A0_7 l0_7.length c0_7) := (bkC BK329.out 7).trans rfl; have hfz26_0 := bkF BK329.out 0; have hfz26_1 := bkF BK329.out 1; have hfz26_2 := bkF BK329.out 2; have hfz26_3 := bkF BK329.out 3; have hfz26_4 := bkF BK329.out 4; have hfz26_5 := bkF BK329.out 5; have hfz26_6 := bkF BK329.out 6; have hfz26_7 := bkF BK329.out 7) | (go_at_call 15; (with_reducible refine (shape_Length.calls k a0_1 a0_2 a0_3 a0_4 t338 t339 _ A20.out).mono ?_); rintro e w' ⟨rfl, ⟨nd, rfl⟩⟩; (try first | exact ⟨rfl, _, World.drewN_drewN _ _ _⟩ | exact ⟨rfl, _, Eq.trans (World.drewN_drewN _ _ _) (congrArg (World.drewN _) (Nat.add_assoc _ _ _))⟩)) | (go_at_call 32; (with_reducible refine (culletref16_Length.calls k a0_1 a0_2 a0_3 a0_4 t340 t341 _ A21.out).mono ?_); rintro e w' ⟨rfl, ⟨nd, rfl⟩⟩; (try first | exact ⟨rfl, _, World.drewN_drewN _ _ _⟩ | exact ⟨rfl, _, Eq.trans (World.drewN_drewN _ _ _) (congrArg (World.drewN _) (Nat.add_assoc _ _ _))⟩)))
          repeat (go_quiet (first | ((with_reducible refine gate_dst (N := 1) rfl ?_); refine box_event ?hg (N := 1) ?hd (cs := #[.int .i64 a0_0, .int .i64 a0_1, .int .i64 a0_2, .int .i64 a0_3, .int .i64 a0_4, .slice A0_5 l0_5.length c0_5, .slice A0_6 l0_6.length c0_6, .slice A0_7 l0_7.length c0_7]) (t := 38) ?hr ?_; (case hd => rfl); (case hg => rfl); (case hr => first | (go_simp; done) | (go_simp; rfl)); intro gb329 hg w25 hbox hb; have n0_ := Z0.mk (bwT (by repeat (first | (with_reducible first | exact HB.out | apply bwA | apply bwN | apply bw1) | exact HB.out)) hb); have n1_ := Z0.mk (hbox); have n2_ := Z0.mk ((by rw [hg]; exact (bwZ (by repeat (first | (with_reducible first | exact HB.out | apply bwA | apply bwN | apply bw1) | exact HB.out))) : w.heap.size ≤ gb329)); have n3_ := Z0.mk ((by rw [hg]; exact (bwZ (by repeat (first | (with_reducible first | exact HB.out | apply bwA | apply bwN | apply bw1) | exact HB.out))) : w.heap.size ≤ gb329)); clear HB; have HB := n0_; have BK329 := n1_; have GW329 := n2_; have GE329 := n3_; clear n0_ n1_ n2_ n3_; clear hb hbox hg; have hcz26_0 : w25.cell? ⟨gb329, 0, none⟩ = some (.int .i64 a0_0) := (bkC BK329.out 0).trans rfl; have hcz26_1 : w25.cell? ⟨gb329, 1, none⟩ = some (.int .i64 a0_1) := (bkC BK329.out 1).trans rfl; have hcz26_2 : w25.cell? ⟨gb329, 2, none⟩ = some (.int .i64 a0_2) := (bkC BK329.out 2).trans rfl; have hcz26_3 : w25.cell? ⟨gb329, 3, none⟩ = some (.int .i64 a0_3) := (bkC BK329.out 3).trans rfl; have hcz26_4 : w25.cell? ⟨gb329, 4, none⟩ = some (.int .i64 a0_4) := (bkC BK329.out 4).trans rfl; have hcz26_5 : w25.cell? ⟨gb329, 5, none⟩ = some (.slice A0_5 l0_5.length c0_5) := (bkC BK329.out 5).trans rfl; have hcz26_6 : w25.cell? ⟨gb329, 6, none⟩ = some (.slice A0_6 l0_6.length c0_6) := (bkC BK329.out 6).trans rfl; have hcz26_7 : w25.cell? ⟨gb329, 7, none⟩ = some (.slice A0_7 l0_7.length c0_7) := (bkC BK329.out 7).trans rfl; have hfz26_0 := bkF BK329.out 0; have hfz26_1 := bkF BK329.out 1; have hfz26_2 := bkF BK329.out 2; have hfz26_3 := bkF BK329.out 3; have hfz26_4 := bkF BK329.out 4; have hfz26_5 := bkF BK329.out 5; have hfz26_6 := bkF BK329.out 6; have hfz26_7 := bkF BK329.out 7) | (go_at_call 15; (with_reducible refine (shape_Length.calls k a0_1 a0_2 a0_3 a0_4 t338 t339 _ A20.out).mono ?_); rintro e w' ⟨rfl, ⟨nd, rfl⟩⟩; (try first | exact ⟨rfl, _, World.drewN_drewN _ _ _⟩ | exact ⟨rfl, _, Eq.trans (World.drewN_drewN _ _ _) (congrArg (World.drewN _) (Nat.add_assoc _ _ _))⟩)) | (go_at_call 32; (with_reducible refine (culletref16_Length.calls k a0_1 a0_2 a0_3 a0_4 t340 t341 _ A21.out).mono ?_); rintro e w' ⟨rfl, ⟨nd, rfl⟩⟩; (try first | exact ⟨rfl, _, World.drewN_drewN _ _ _⟩ | exact ⟨rfl, _, Eq.trans (World.drewN_drewN _ _ _) (congrArg (World.drewN _) (Nat.add_assoc _ _ _))⟩))); try go_wp2_with (first | ((with_reducible refine gate_dst (N := 1) rfl ?_); refine box_event ?hg (N := 1) ?hd (cs := #[.int .i64 a0_0, .int .i64 a0_1, .int .i64 a0_2, .int .i64 a0_3, .int .i64 a0_4, .slice A0_5 l0_5.length c0_5, .slice A0_6 l0_6.length c0_6, .slice A0_7 l0_7.length c0_7]) (t := 38) ?hr ?_; (case hd => rfl); (case hg => rfl); (case hr => first | (go_simp; done) | (go_simp; rfl)); intro gb329 hg w25 hbox hb; have n0_ := Z0.mk (bwT (by repeat (first | (with_reducible first | exact HB.out | apply bwA | apply bwN | apply bw1) | exact HB.out)) hb); have n1_ := Z0.mk (hbox); have n2_ := Z0.mk ((by rw [hg]; exact (bwZ (by repeat (first | (with_reducible first | exact HB.out | apply bwA | apply bwN | apply bw1) | exact HB.out))) : w.heap.size ≤ gb329)); have n3_ := Z0.mk ((by rw [hg]; exact (bwZ (by repeat (first | (with_reducible first | exact HB.out | apply bwA | apply bwN | apply bw1) | exact HB.out))) : w.heap.size ≤ gb329)); clear HB; have HB := n0_; have BK329 := n1_; have GW329 := n2_; have GE329 := n3_; clear n0_ n1_ n2_ n3_; clear hb hbox hg; have hcz26_0 : w25.cell? ⟨gb329, 0, none⟩ = some (.int .i64 a0_0) := (bkC BK329.out 0).trans rfl; have hcz26_1 : w25.cell? ⟨gb329, 1, none⟩ = some (.int .i64 a0_1) := (bkC BK329.out 1).trans rfl; have hcz26_2 : w25.cell? ⟨gb329, 2, none⟩ = some (.int .i64 a0_2) := (bkC BK329.out 2).trans rfl; have hcz26_3 : w25.cell? ⟨gb329, 3, none⟩ = some (.int .i64 a0_3) := (bkC BK329.out 3).trans rfl; have hcz26_4 : w25.cell? ⟨gb329, 4, none⟩ = some (.int .i64 a0_4) := (bkC BK329.out 4).trans rfl; have hcz26_5 : w25.cell? ⟨gb329, 5, none⟩ = some (.slice A0_5 l0_5.length c0_5) := (bkC BK329.out 5).trans rfl; have hcz26_6 : w25.cell? ⟨gb329, 6, none⟩ = some (.slice A0_6 l0_6.length c0_6) := (bkC BK329.out 6).trans rfl; have hcz26_7 : w25.cell? ⟨gb329, 7, none⟩ = some (.slice A0_7 l0_7.length c0_7) := (bkC BK329.out 7).trans rfl; have hfz26_0 := bkF BK329.out 0; have hfz26_1 := bkF BK329.out 1; have hfz26_2 := bkF BK329.out 2; have hfz26_3 := bkF BK329.out 3; have hfz26_4 := bkF BK329.out 4; have hfz26_5 := bkF BK329.out 5; have hfz26_6 := bkF BK329.out 6; have hfz26_7 := bkF BK329.out 7) | (go_at_call 15; (with_reducible refine (shape_Length.calls k a0_1 a0_2 a0_3 a0_4 t338 t339 _ A20.out).mono ?_); rintro e w' ⟨rfl, ⟨nd, rfl⟩⟩; (try first | exact ⟨rfl, _, World.drewN_drewN _ _ _⟩ | exact ⟨rfl, _, Eq.trans (World.drewN_drewN _ _ _) (congrArg (World.drewN _) (Nat.add_assoc _ _ _))⟩)) | (go_at_call 32; (with_reducible refine (culletref16_Length.calls k a0_1 a0_2 a0_3 a0_4 t340 t341 _ A21.out).mono ?_); rintro e w' ⟨rfl, ⟨nd, rfl⟩⟩; (try first | exact ⟨rfl, _, World.drewN_drewN _ _ _⟩ | exact ⟨rfl, _, Eq.trans (World.drewN_drewN _ _ _) (congrArg (World.drewN _) (Nat.add_assoc _ _ _))⟩))))
          go_ret
          exact ⟨by first | rfl | (simp [ewN, ewS] <;> rfl) | (simp [*, ewN, ewS] <;> rfl), by repeat (first | (with_reducible first | exact HB.out | apply bwA | apply bwN | apply bw1 | refine bwS ?_ GE329.out) | exact HB.out)⟩

end Go.Proofs.Ytcbjabnnokjnpaa.PA

namespace Go.Proofs.Ytcbjabnnokjnpaa.PA
open Go.RowKit Go.Proofs.YtcbjabnnokjnpaaW.PrintWords Go.Proofs.YtcbjabnnokjnpaaW.PrintLast Go.Proofs.YtcbjabnnokjnpaaW.PrintMore
attribute [local go_sem] max2_int min2_int max_two min_two max_three min_three max_four min_four   -- for this text's walks alone
set_option linter.unusedVariables false
set_option linter.unusedSimpArgs false

/-! ### culletlaw16_twin: function 43 -/
def culletlaw16_twin.l0 : Nat → List (List Int) → List (List Int) → Int → Option ((List (List Int)))
  | 0, _, _, _ => none
  | k + 1, x0, x3, x4 => if x4 < (x0.length : Int) then ((some (([] : List Int) : List Int)).bind fun y345 => (if 0 ≤ x4 then (if y345.length + (rd_L2 x0 x4).length < 140737488355328 then (if x4 < (x3.length : Int) then (culletlaw16_twin.l0 k x0 (x3.set (x4 : Int).toNat (y345 ++ (rd_L2 x0 x4))) (wrap64 (x4 + 1))) else (none)) else (none)) else (none))) else (some x3)
def culletlaw16_twin.f (k : Nat) (l0 : List (List Int)) : Option ((List (List Int))) := if 0 ≤ (l0.length : Int) then (if ((l0.length : Int) : Int).toNat ≤ 11728124029610 then (culletlaw16_twin.l0 k l0 (List.replicate ((l0.length : Int) : Int).toNat []) 0) else (none)) else (none)
theorem culletlaw16_twin.mono_l : ∀ k, (∀ y0 y1 y2, LeO (culletlaw16_twin.l0 k y0 y1 y2) (culletlaw16_twin.l0 (k + 1) y0 y1 y2))
  | 0 => fun _ _ _ r h => by simp [culletlaw16_twin.l0] at h
  | k + 1 => by
    have ih0 := culletlaw16_twin.mono_l k
    · intro y0 y1 y2
      unfold culletlaw16_twin.l0
      repeat' first
      | (with_reducible exact ih0 _ _ _)
      | (with_reducible exact LeO.refl _)
      | (with_reducible exact LeO.none _)
      | (with_reducible refine LeO.ite ?_ ?_)
      | (with_reducible refine LeO.bind ?_ (fun _ => ?_))
      | exact ih0 _ _ _
      | exact LeO.none _
      | refine LeO.ite ?_ ?_
      | refine LeO.bind ?_ (fun _ => ?_)
theorem culletlaw16_twin.mono : ∀ a0 k, LeO (culletlaw16_twin.f k a0) (culletlaw16_twin.f (k + 1) a0) := by
  intro a0 k
  have ih0 := culletlaw16_twin.mono_l k
  unfold culletlaw16_twin.f
  repeat' first
      | (with_reducible exact ih0 _ _ _)
      | (with_reducible exact LeO.refl _)
      | (with_reducible exact LeO.none _)
      | (with_reducible refine LeO.ite ?_ ?_)
      | (with_reducible refine LeO.bind ?_ (fun _ => ?_))
      | exact ih0 _ _ _
      | exact LeO.none _
      | refine LeO.ite ?_ ?_
      | refine LeO.bind ?_ (fun _ => ?_)
set_option maxHeartbeats 8000000 in
set_option maxRecDepth 100000 in
theorem culletlaw16_twin.calls (k : Nat) (A0 : Option Addr) (c0 : Nat) (l0 : List (List Int)) (r : List (List Int)) (w : World) (hr0 : Kd.C (Kd.slice 5 (Kd.int .u8)) w A0 l0.length l0) (hc0 : l0.length ≤ c0) (h : culletlaw16_twin.f k l0 = some r) :
    Calls Try.prog 43 #[.slice A0 l0.length c0] w fun e w' => ∃ v0_ : Value, e = .returned (v0_) ∧ Kd.S (Kd.slice 5 (Kd.int .u8)) 27 w' w.heap.size (fun _ => True) v0_ r ∧ Below w.heap.size w w' := by
  have HR0 := Z0.mk hr0
  have HC0 := Z0.mk hc0
  clear hr0 hc0
  have HB := Z0.mk (Below.refl w.heap.size w)
  have H : (if 0 ≤ (l0.length : Int) then (if ((l0.length : Int) : Int).toNat ≤ 11728124029610 then (culletlaw16_twin.l0 k l0 (List.replicate ((l0.length : Int) : Int).toNat []) 0) else (none)) else (none)) = some r := h
  clear h
  by_cases c2 : 0 ≤ (l0.length : Int)
  · rw [if_pos c2] at H
    have c2b0 := eq_true c2
    have c2b1 : decide (0 ≤ (l0.length : Int)) = true := decide_eq_true c2
    clear c2
    by_cases c3 : ((l0.length : Int) : Int).toNat ≤ 11728124029610
    · rw [if_pos c3] at H
      have c3b0 := eq_true c3
      have c3b1 : decide (((l0.length : Int) : Int).toNat ≤ 11728124029610) = true := decide_eq_true c3
      clear c3
      obtain ⟨y342, hy342⟩ : ∃ y_ : List (List Int), y_ = (List.replicate ((l0.length : Int) : Int).toNat []) := ⟨_, rfl⟩
      replace H : (culletlaw16_twin.l0 k l0 y342 0) = some r := by first | (rw [hy342]; with_reducible exact H) | (have H2_ := (Option.bind_some _ _).symm.trans H; rw [hy342]; with_reducible exact H2_) | (have H2_ := (Option.bind_some _ _).symm.trans H; with_reducible exact H2_) | with_reducible exact H | (rw [hy342]; exact H) | exact H
      have Ny342 := Z0.mk hy342
      clear hy342
      have H' := Z0.mk H
      clear H
      go_enter Try.func43, Try.ntmps43
      go_wp2_with (first | ((with_reducible refine gate_dst (N := 7) rfl ?_); refine Kd.S_make (Kd.slice 5 (Kd.int .u8)) _ 27 rfl (N := 7) rfl 22 _ _ rfl (l0.length : Int) rfl rfl Try.underlying22 (.slice none 0 0) 24 info27 rfl (by decide) (by omega) [] (ok := fun _ => True) (okp := fun _ => True) ⟨_, rfl, Kd.R_nil _ _ _ _ _⟩ (fun _ hk => hk) trivial (of_decide_eq_true (by first | (with_reducible assumption) | assumption)) (Nat.le_trans (Nat.mul_le_mul_right _ (of_decide_eq_true (by first | (with_reducible assumption) | assumption) : (l0.length : Int).toNat ≤ 11728124029610)) (by omega)) (Below.refl _ _) (Nat.le_refl _) ?_; intro v343 w4 ho5 hb hg_ hnew_; clear hg_ hnew_; (first | rw [← Ny342.out] at ho5 | (simp only [Int.reduceToNat] at ho5; rw [← Ny342.out] at ho5)); have n0_ := Z0.mk (Kd.S_lower ho5 (bwZ (by repeat (first | (with_reducible first | exact HB.out | apply bwA | apply bwN | apply bw1) | exact HB.out)))); have n1_ := Z0.mk (bwT (by repeat (first | (with_reducible first | exact HB.out | apply bwA | apply bwN | apply bw1) | exact HB.out)) hb); clear HB; have HO344 := n0_; have HB := n1_; clear n0_ n1_; clear hb ho5))
      go_loopg [4] k (fun kq v4 w' => ∃ (x3_1 : List (List Int)) (x4_1 : Int), v4 = .int .i64 x4_1 ∧ Z0 (culletlaw16_twin.l0 kq l0 x3_1 x4_1 = some r) ∧ Z0 (kq ≤ k) ∧ Z0 (Kd.S (Kd.slice 5 (Kd.int .u8)) 27 w' w.heap.size (fun _ => True) v343 x3_1) ∧ Z0 (Below w.heap.size w w'))
      case atStart => exact ⟨(y342), (0), (by first | rfl | (simp; done) | (simp [*]; done)), H', ⟨Nat.le_refl _⟩, ⟨by (with_reducible repeat (first | apply Kd.S_alloc | apply Kd.S_drewN | apply Kd.S_drew)); exact HO344.out⟩, ⟨by repeat (first | (with_reducible first | exact HB.out | apply bwA | apply bwN | apply bw1) | exact HB.out)⟩⟩
      case round =>
        clear H'
        try clear c2
        try clear c2b0
        try clear c2b1
        try clear p2
        try clear c3
        try clear c3b0
        try clear c3b1
        try clear c4
        obtain ⟨x3_1, x4_1, rfl, HA, HK1, HO_3, HB⟩ := hrel
        cases gk with
        | zero => exact absurd HA.out (by simp [culletlaw16_twin.l0])
        | succ k1 =>
          have H := HA.out
          clear HA
          simp only [culletlaw16_twin.l0] at H
          by_cases c6 : x4_1 < (l0.length : Int)
          · rw [if_pos c6] at H
            have c6b0 : decide (x4_1 < (l0.length : Int)) = true := decide_eq_true c6
            clear c6
            obtain ⟨y345, hy345⟩ : ∃ y_ : List Int, y_ = (([] : List Int)) := ⟨_, rfl⟩
            replace H : (if 0 ≤ x4_1 then (if y345.length + (rd_L2 l0 x4_1).length < 140737488355328 then (if x4_1 < (x3_1.length : Int) then (culletlaw16_twin.l0 k1 l0 (x3_1.set (x4_1 : Int).toNat (y345 ++ (rd_L2 l0 x4_1))) (wrap64 (x4_1 + 1))) else (none)) else (none)) else (none)) = some r := by first | (rw [hy345]; with_reducible exact H) | (have H2_ := (Option.bind_some _ _).symm.trans H; rw [hy345]; with_reducible exact H2_) | (have H2_ := (Option.bind_some _ _).symm.trans H; with_reducible exact H2_) | with_reducible exact H | (rw [hy345]; exact H) | exact H
            have Ny345 := Z0.mk hy345
            clear hy345
            by_cases c7 : 0 ≤ x4_1
            · rw [if_pos c7] at H
              have c7b0 : decide (0 ≤ x4_1) = true := decide_eq_true c7
              clear c7
              by_cases c8 : y345.length + (rd_L2 l0 x4_1).length < 140737488355328
              · rw [if_pos c8] at H
                have LMc8 := Z0.mk c8
                clear c8
                obtain ⟨y349, hy349⟩ : ∃ y_ : List Int, y_ = (y345 ++ (rd_L2 l0 x4_1)) := ⟨_, rfl⟩
                replace H : (if x4_1 < (x3_1.length : Int) then (culletlaw16_twin.l0 k1 l0 (x3_1.set (x4_1 : Int).toNat y349) (wrap64 (x4_1 + 1))) else (none)) = some r := by first | (rw [hy349]; with_reducible exact H) | (have H2_ := (Option.bind_some _ _).symm.trans H; rw [hy349]; with_reducible exact H2_) | (have H2_ := (Option.bind_some _ _).symm.trans H; with_reducible exact H2_) | with_reducible exact H | (rw [hy349]; exact H) | exact H
                have Ny349 := Z0.mk hy349
                clear hy349
                by_cases c9 : x4_1 < (x3_1.length : Int)
                · rw [if_pos c9] at H
                  have c9b0 : decide (x4_1 < (x3_1.length : Int)) = true := decide_eq_true c9
                  clear c9
                  obtain ⟨y352, hy352⟩ : ∃ y_ : List (List Int), y_ = (x3_1.set (x4_1 : Int).toNat y349) := ⟨_, rfl⟩
                  replace H : (culletlaw16_twin.l0 k1 l0 y352 (wrap64 (x4_1 + 1))) = some r := by first | (rw [hy352]; with_reducible exact H) | (have H2_ := (Option.bind_some _ _).symm.trans H; rw [hy352]; with_reducible exact H2_) | (have H2_ := (Option.bind_some _ _).symm.trans H; with_reducible exact H2_) | with_reducible exact H | (rw [hy352]; exact H) | exact H
                  have Ny352 := Z0.mk hy352
                  clear hy352
                  have H' := Z0.mk H
                  clear H
                  go_wp2_with (first | ((with_reducible refine gate_dst (N := 16) rfl ?_); refine Kd.R_lit (Kd.int .u8) _ 5 ?hg (N := 16) ?hd (xs := ([] : List Int)) (inner := []) (ok := fun _ => True) (okp := fun _ => True) ?hr ?hp (fun _ hk => hk) trivial (Below.refl _ _) (Nat.le_refl _) (by simp) ?_; (case hd => rfl); (case hg => rfl); (case hr => first | (go_simp; done) | (go_simp; rfl)); (case hp => exact (Reps.none _ _)); intro v346 w11 ho12 hb hg_ hnew_; clear hg_ hnew_; (first | rw [← Ny345.out] at ho12 | (simp only [Int.reduceToNat] at ho12; rw [← Ny345.out] at ho12)); have n0_ := Z0.mk (Kd.S_elder' (by (with_reducible repeat (first | apply Kd.S_alloc | apply Kd.S_drewN | apply Kd.S_drew)); exact HO_3.out) (Kd.R_base ho12) hb); have n1_ := Z0.mk (Kd.R_lower ho12 (bwZ (by repeat (first | (with_reducible first | exact HB.out | apply bwA | apply bwN | apply bw1) | exact HB.out)))); have n2_ := Z0.mk (bwT (by repeat (first | (with_reducible first | exact HB.out | apply bwA | apply bwN | apply bw1) | exact HB.out)) hb); clear HO_3; clear HB; have HO_3 := n0_; have HO347 := n1_; have HB := n2_; clear n0_ n1_ n2_; clear hb ho12; have p348 : 0 ≤ (x4_1 : Int) := of_decide_eq_true (by first | (with_reducible assumption) | assumption); have q348 : x4_1 < (l0.length : Int) := of_decide_eq_true (by first | (with_reducible assumption) | assumption); obtain ⟨ad348, A348_0, c348_0, e348, hx348_0, hl348_0, hi348_0⟩ := at_L2 HR0.out x4_1 p348 q348; cases e348; replace hx348_0 := (HB.out.cell (World.block_lt_of_cell? w _ hx348_0)).trans hx348_0; have HR348_0 := Z0.mk hi348_0; have HC348_0 := Z0.mk hl348_0; clear hi348_0 hl348_0; replace p348 := eq_true p348; replace q348 := eq_true q348) | ((with_reducible refine gate_builtin (b := .append) (xs := #[.tmp 16, .tmp 20]) rfl ?_); at_builtin; refine Kd.R_append_rows (Kd.int .u8) (w0 := w) w.heap.size rfl (.tmp 16) (.tmp 20) 27 5 (.int .u8 0) 1 rfl Try.underlying27 info5 rfl (by decide) (by omega) v346 y345 (rd_L2 l0 x4_1) _ _ _ (fun _ => True) (fun _ => False) rfl rfl ?aO ?aR (fun _ _ h => h) (fun _ h => h.elim) ?aF ?aB ?aS ?aL ?_; (case aR => repeat (first | exact (Kd.C_below HR348_0.out HB.out) | (with_reducible refine Kd.C_alloc ?_ _) | (with_reducible refine Kd.C_drewN ?_ _) | (with_reducible refine Kd.C_drew ?_))); (case aB => exact (by repeat (first | (with_reducible first | exact HB.out | apply bwA | apply bwN | apply bw1) | exact HB.out))); (case aF => exact (fun _ _ => trivial)); (case aO => exact (by (with_reducible repeat (first | apply Kd.R_alloc | apply Kd.R_drewN | apply Kd.R_drew)); exact HO347.out)); (case aS => exact (bwZ (by repeat (first | (with_reducible first | exact HB.out | apply bwA | apply bwN | apply bw1) | exact HB.out)))); (case aL => have := LMc8.out; omega); intro v350 w13 ho hb hg hat; rw [← Ny349.out] at ho; have n0_ := Z0.mk (Kd.S_after (ok := (fun _ => True)) (by (with_reducible repeat (first | apply Kd.S_alloc | apply Kd.S_drewN | apply Kd.S_drew)); exact HO_3.out) hg hat); have n1_ := Z0.mk (hb); have n2_ := Z0.mk (ho); clear HO_3; clear HB; clear HO347; have HO_3 := n0_; have HB := n1_; have HO351 := n2_; clear n0_ n1_ n2_; clear ho hb hg hat; have p10 : 0 ≤ (x4_1 : Int) := of_decide_eq_true (by first | (with_reducible assumption) | assumption); have q10 : (x4_1 : Int) < ((x3_1.length : Int) : Int) := of_decide_eq_true (by first | (with_reducible assumption) | assumption); obtain ⟨go10, co10, eo10, gb10, gl10, cl10, HG10⟩ := Kd.S_form HO_3.out (by omega); (first | cases eo10 | (injection eo10 with ea_ en_ ec_; (first | subst ea_ | (injection ea_ with ea_; subst ea_)); subst ec_; clear en_)); have GB10 := Z0.mk gb10; have GG10 := Z0.mk HG10; clear gb10 gl10 HG10; obtain ⟨_, ce10, hcl10, hM10, hcc10, hfr10, _, _⟩ := Kd.S_elem HO_3.out [] (x4_1 : Int) p10 q10; obtain ⟨ve10_0, rfl, ge10_0⟩ := hM10; have hx10_0 := hcc10 0 _ rfl; have hf10_0 := hfr10 0; (try simp only [show ((Kd.slice 5 (Kd.int .u8))).sz = 1 from rfl, Nat.mul_one, Nat.add_zero] at hx10_0); (try simp only [show ((Kd.slice 5 (Kd.int .u8))).sz = 1 from rfl, Nat.mul_one, Nat.add_zero] at hf10_0); clear hcl10 hcc10 hfr10; (try clear hM10); replace p10 := eq_true p10; replace q10 := eq_true q10; obtain ⟨Ao14, co14, eo14⟩ := Kd.R_slice HO351.out; subst eo14; have n_ := Z0.mk (Kd.S_mono (ok' := (fun k_ => some k_ ≠ (.slice Ao14 y349.length co14 : Value).ownBlock)) HO_3.out (fun k_ hk => hk.2)); clear HO_3; have HO_3 := n_; clear n_; have HX15 := Z0.mk (show Kd.S (Kd.slice 5 (Kd.int .u8)) 27 w13 w.heap.size (fun k_ => ((fun _ => True)) k_ ∧ ¬ ((fun k_ => some k_ = (.slice Ao14 y349.length co14 : Value).ownBlock)) k_) (.slice (some ⟨go10, 0, none⟩) x3_1.length co10) x3_1 from (by (with_reducible repeat (first | apply Kd.S_alloc | apply Kd.S_drewN | apply Kd.S_drew)); exact Kd.S_mono HO_3.out (fun k_ hk => ⟨trivial, fun e_ => hk e_⟩))); obtain ⟨oki15, ce15, hcl15, hM15, hcc15, hfr15, hoki15, hH15⟩ := Kd.S_elem HX15.out [] (x4_1 : Int) (of_decide_eq_true (by first | (with_reducible assumption) | assumption)) (by have h_ : (x4_1 : Int) < ((x3_1.length : Int) : Int) := of_decide_eq_true (by first | (with_reducible assumption) | assumption); first | exact h_ | (have e_ := (Kd.S_reads' HO_3.out).1; omega) | simpa using h_); obtain ⟨ve15_0, rfl, ge15_0⟩ := hM15; have HP15 := Kd.S_seg hH15 (of_decide_eq_true (by first | (with_reducible assumption) | assumption)) (by have h_ : (x4_1 : Int) < ((x3_1.length : Int) : Int) := of_decide_eq_true (by first | (with_reducible assumption) | assumption); first | exact h_ | (have e_ := (Kd.S_reads' HO_3.out).1; omega) | simpa using h_) (seg := [.slice Ao14 y349.length co14]) (j := 0) (show 1 ≤ 1 from by decide) (x' := y349) (Kd.M_row (Kd.R_mono (Kd.R_tight rfl (Kd.R_mono (ok' := fun k_ => ((fun _ => True)) k_ ∧ k_ ≠ go10) (Kd.R_apart' (HO351.out) (Kd.S_typed HO_3.out) (by decide)) (fun k_ hk => ⟨trivial, fun e_ => (hk.2) (by rw [e_]; rfl)⟩))) (fun _ h_ => Or.inr (h_)))) (fun _ hk => hk) (fun k_ hk_ => ((Kd.R_mono (ok' := fun k_ => ((fun _ => True)) k_ ∧ k_ ≠ go10) (Kd.R_apart' (HO351.out) (Kd.S_typed HO_3.out) (by decide)) (fun k_ hk => ⟨trivial, fun e_ => (hk.2) (by rw [e_]; rfl)⟩))).1 k_ hk_.symm); have hx15_0 := hcc15 0 _ rfl; (try simp only [show ((Kd.slice 5 (Kd.int .u8))).sz = 1 from rfl, Nat.mul_one, Nat.add_zero] at hx15_0); have hf15_0 := hfr15 0; (try simp only [show ((Kd.slice 5 (Kd.int .u8))).sz = 1 from rfl, Nat.mul_one, Nat.add_zero] at hf15_0); clear hcl15 hcc15 hfr15 hoki15 hH15; (try clear hM15); (try simp only [show ((Kd.slice 5 (Kd.int .u8))).sz = 1 from rfl, Nat.mul_one, Nat.add_zero] at HP15)) | ((with_reducible refine gate_store (t := 27) (p := 22) rfl ?_); refine store_event (t := 27) (p := 22) (v := ?vo_w16) (w1 := (w13.setCell ⟨go10, (x4_1 : Int).toNat, none⟩ (.slice Ao14 y349.length co14))) ?hg ?ho ?hn ?hr ?_; (case ho => rfl); (case hg => rfl); (case hn => rfl); (case hr => first | (go_simp; done) | (go_simp; rfl)); intro w16 hw; have hg : w13.grownBy w16 (some go10) := (by rw [hw]; exact HP15.2); have hp_ : Kd.S (Kd.slice 5 (Kd.int .u8)) 27 w16 w.heap.size (fun _ => True) (.slice (some ⟨go10, 0, none⟩) x3_1.length co10) y352 := (by rw [hw, Ny352.out]; exact HP15.1); clear HP15; have n0_ := Z0.mk (hp_); have n1_ := Z0.mk ((by rw [hw]; exact bwS (HB.out) GB10.out : Below w.heap.size w w16)); clear HO_3; clear HB; clear HO351; have HO_3 := n0_; have HB := n1_; clear n0_ n1_; clear hg hw hp_))
                  go_roundg k1
                  case measure => have := HK1.out; omega
                  case rel => exact ⟨(y352), (wrap64 (x4_1 + 1)), (by first | rfl | (simp; done) | (simp [*]; done)), H', ⟨by have := HK1.out; omega⟩, ⟨by (with_reducible repeat (first | apply Kd.S_alloc | apply Kd.S_drewN | apply Kd.S_drew)); exact HO_3.out⟩, ⟨by repeat (first | (with_reducible first | exact HB.out | apply bwA | apply bwN | apply bw1) | exact HB.out)⟩⟩
                · rw [if_neg c9] at H
                  exact absurd H (by simp)
              · rw [if_neg c8] at H
                exact absurd H (by simp)
            · rw [if_neg c7] at H
              exact absurd H (by simp)
          · rw [if_neg c6] at H
            have c6b0 : decide (x4_1 < (l0.length : Int)) = false := decide_eq_false c6
            clear c6
            obtain rfl := Option.some.inj H
            go_wp2
            go_ret
            exact ⟨_, by first | rfl | (simp [ewN, ewS] <;> rfl) | (simp [*, ewN, ewS] <;> rfl), by (with_reducible repeat (first | apply Kd.S_alloc | apply Kd.S_drewN | apply Kd.S_drew)); exact HO_3.out, by repeat (first | (with_reducible first | exact HB.out | apply bwA | apply bwN | apply bw1) | exact HB.out)⟩
    · rw [if_neg c3] at H
      exact absurd H (by simp)
  · rw [if_neg c2] at H
    exact absurd H (by simp)

end Go.Proofs.Ytcbjabnnokjnpaa.PA

namespace Go.Proofs.Ytcbjabnnokjnpaa.PA
open Go.RowKit Go.Proofs.YtcbjabnnokjnpaaW.PrintWords Go.Proofs.YtcbjabnnokjnpaaW.PrintLast Go.Proofs.YtcbjabnnokjnpaaW.PrintMore
attribute [local go_sem] max2_int min2_int max_two min_two max_three min_three max_four min_four   -- for this text's walks alone
set_option linter.unusedVariables false
set_option linter.unusedSimpArgs false

/-! ### culletref16_empties: function 48 -/
def culletref16_empties.l0 : Nat → List (List Int) → List Int → Int → Option (List Int)
  | 0, _, _, _ => none
  | k + 1, x0, x3, x4 => if x4 < (x0.length : Int) then (if 0 ≤ x4 then (if ((rd_L2 x0 x4).length : Int) = 0 then (if x3.length < 17592186044416 then (culletref16_empties.l0 k x0 (x3 ++ [x4]) (wrap64 (x4 + 1))) else (none)) else (culletref16_empties.l0 k x0 x3 (wrap64 (x4 + 1)))) else (none)) else (some x3)
def culletref16_empties.f (k : Nat) (l0 : List (List Int)) : Option (List Int) := culletref16_empties.l0 k l0 ([] : List Int) 0
theorem culletref16_empties.mono_l : ∀ k, (∀ y0 y1 y2, LeO (culletref16_empties.l0 k y0 y1 y2) (culletref16_empties.l0 (k + 1) y0 y1 y2))
  | 0 => fun _ _ _ r h => by simp [culletref16_empties.l0] at h
  | k + 1 => by
    have ih0 := culletref16_empties.mono_l k
    · intro y0 y1 y2
      unfold culletref16_empties.l0
      repeat' first
      | (with_reducible exact ih0 _ _ _)
      | (with_reducible exact LeO.refl _)
      | (with_reducible exact LeO.none _)
      | (with_reducible refine LeO.ite ?_ ?_)
      | (with_reducible refine LeO.bind ?_ (fun _ => ?_))
      | exact ih0 _ _ _
      | exact LeO.none _
      | refine LeO.ite ?_ ?_
      | refine LeO.bind ?_ (fun _ => ?_)
theorem culletref16_empties.mono : ∀ a0 k, LeO (culletref16_empties.f k a0) (culletref16_empties.f (k + 1) a0) := by
  intro a0 k
  have ih0 := culletref16_empties.mono_l k
  unfold culletref16_empties.f
  repeat' first
      | (with_reducible exact ih0 _ _ _)
      | (with_reducible exact LeO.refl _)
      | (with_reducible exact LeO.none _)
      | (with_reducible refine LeO.ite ?_ ?_)
      | (with_reducible refine LeO.bind ?_ (fun _ => ?_))
      | exact ih0 _ _ _
      | exact LeO.none _
      | refine LeO.ite ?_ ?_
      | refine LeO.bind ?_ (fun _ => ?_)
set_option maxHeartbeats 8000000 in
set_option maxRecDepth 100000 in
theorem culletref16_empties.calls (k : Nat) (A0 : Option Addr) (c0 : Nat) (l0 : List (List Int)) (r : List Int) (w : World) (hr0 : Kd.C (Kd.slice 5 (Kd.int .u8)) w A0 l0.length l0) (hc0 : l0.length ≤ c0) (h : culletref16_empties.f k l0 = some r) :
    Calls Try.prog 48 #[.slice A0 l0.length c0] w fun e w' => ∃ v0_ : Value, e = .returned (v0_) ∧ Kd.R (Kd.int .i64) 3 w' w.heap.size (fun _ => True) v0_ r ∧ Below w.heap.size w w' := by
  have HR0 := Z0.mk hr0
  have HC0 := Z0.mk hc0
  clear hr0 hc0
  have HB := Z0.mk (Below.refl w.heap.size w)
  have H : (culletref16_empties.l0 k l0 ([] : List Int) 0) = some r := h
  clear h
  have H' := Z0.mk H
  clear H
  go_enter Try.func48, Try.ntmps48
  go_wp2
  go_loopg [3, 4] k (fun kq v3 v4 w' => ∃ (x3_1 : List Int) (x4_1 : Int), v4 = .int .i64 x4_1 ∧ Z0 (culletref16_empties.l0 kq l0 x3_1 x4_1 = some r) ∧ Z0 (kq ≤ k) ∧ Z0 (Kd.R (Kd.int .i64) 3 w' w.heap.size (fun _ => True) v3 x3_1) ∧ Z0 (Below w.heap.size w w'))
  case atStart => exact ⟨(([] : List Int)), (0), (by first | rfl | (simp; done) | (simp [*]; done)), H', ⟨Nat.le_refl _⟩, ⟨by first | exact Kd.R_nil _ _ _ _ _ | exact Kd.N_nil _ _ _ _ _ | exact Kd.V_nil _ _ _ _ _ | exact Kd.Q_nil _ _ _ _ _ | exact Kd.S_nil _ _ _ _ _⟩, ⟨by repeat (first | (with_reducible first | exact HB.out | apply bwA | apply bwN | apply bw1) | exact HB.out)⟩⟩
  case round =>
    clear H'
    obtain ⟨x3_1, x4_1, rfl, HA, HK1, HO_3, HB⟩ := hrel
    cases gk with
    | zero => exact absurd HA.out (by simp [culletref16_empties.l0])
    | succ k1 =>
      have H := HA.out
      clear HA
      simp only [culletref16_empties.l0] at H
      by_cases c2 : x4_1 < (l0.length : Int)
      · rw [if_pos c2] at H
        have c2b0 : decide (x4_1 < (l0.length : Int)) = true := decide_eq_true c2
        clear c2
        by_cases c3 : 0 ≤ x4_1
        · rw [if_pos c3] at H
          have c3b0 : decide (0 ≤ x4_1) = true := decide_eq_true c3
          clear c3
          by_cases c4 : ((rd_L2 l0 x4_1).length : Int) = 0
          · rw [if_pos c4] at H
            have c4b0 : (((rd_L2 l0 x4_1).length : Int) == 0) = true := beq_iff_eq.mpr c4
            have c4b1 : (((rd_L2 l0 x4_1).length : Int) != 0) = false := bne_eq_false_iff_eq.mpr c4
            clear c4
            by_cases c5 : x3_1.length < 17592186044416
            · rw [if_pos c5] at H
              have LMc5 := Z0.mk c5
              clear c5
              obtain ⟨y354, hy354⟩ : ∃ y_ : List Int, y_ = (x3_1 ++ [x4_1]) := ⟨_, rfl⟩
              replace H : (culletref16_empties.l0 k1 l0 y354 (wrap64 (x4_1 + 1))) = some r := by first | (rw [hy354]; with_reducible exact H) | (have H2_ := (Option.bind_some _ _).symm.trans H; rw [hy354]; with_reducible exact H2_) | (have H2_ := (Option.bind_some _ _).symm.trans H; with_reducible exact H2_) | with_reducible exact H | (rw [hy354]; exact H) | exact H
              have Ny354 := Z0.mk hy354
              clear hy354
              have H' := Z0.mk H
              clear H
              have p353 : 0 ≤ (x4_1 : Int) := of_decide_eq_true (by first | (with_reducible assumption) | assumption)
              have q353 : x4_1 < (l0.length : Int) := of_decide_eq_true (by first | (with_reducible assumption) | assumption)
              obtain ⟨ad353, A353_0, c353_0, e353, hx353_0, hl353_0, hi353_0⟩ := at_L2 HR0.out x4_1 p353 q353
              cases e353
              replace hx353_0 := (HB.out.cell (World.block_lt_of_cell? w _ hx353_0)).trans hx353_0
              have HR353_0 := Z0.mk hi353_0
              have HC353_0 := Z0.mk hl353_0
              clear hi353_0 hl353_0
              replace p353 := eq_true p353
              replace q353 := eq_true q353
              go_wp2_with (first | ((with_reducible refine gate_builtin (b := .append) (xs := #[.tmp 17, .tmp 19]) rfl ?_); at_builtin; refine Kd.R_append (Kd.int .i64) (w0 := w) w.heap.size rfl (.tmp 17) (.tmp 19) 49 3 (.int .i64 0) 8 rfl Try.underlying49 info3 rfl (by decide) (by omega) u3 x3_1 x4_1 [.int .i64 x4_1] (fun _ => True) (fun _ => False) rfl rfl ?aP (fun _ hk => hk.elim) ?aF ?aO ?aB ?aS ?aL ?_; (case aP => exact rfl); (case aB => exact (by repeat (first | (with_reducible first | exact HB.out | apply bwA | apply bwN | apply bw1) | exact HB.out))); (case aF => exact (fun _ _ => trivial)); (case aO => exact (by (with_reducible repeat (first | apply Kd.R_alloc | apply Kd.R_drewN | apply Kd.R_drew)); exact HO_3.out)); (case aS => exact (bwZ (by repeat (first | (with_reducible first | exact HB.out | apply bwA | apply bwN | apply bw1) | exact HB.out)))); (case aL => have := LMc5.out; omega); intro v355 w6 ho hb hg hat; rw [← Ny354.out] at ho; have n0_ := Z0.mk (hb); have n1_ := Z0.mk (ho); clear HB; clear HO_3; have HB := n0_; have HO356 := n1_; clear n0_ n1_; clear ho hb hg hat))
              go_roundg k1
              case measure => have := HK1.out; omega
              case rel => exact ⟨(y354), (wrap64 (x4_1 + 1)), (by first | rfl | (simp; done) | (simp [*]; done)), H', ⟨by have := HK1.out; omega⟩, ⟨by (with_reducible repeat (first | apply Kd.R_alloc | apply Kd.R_drewN | apply Kd.R_drew)); exact HO356.out⟩, ⟨by repeat (first | (with_reducible first | exact HB.out | apply bwA | apply bwN | apply bw1) | exact HB.out)⟩⟩
            · rw [if_neg c5] at H
              exact absurd H (by simp)
          · rw [if_neg c4] at H
            have c4b0 : (((rd_L2 l0 x4_1).length : Int) == 0) = false := beq_eq_false_iff_ne.mpr c4
            have c4b1 : (((rd_L2 l0 x4_1).length : Int) != 0) = true := bne_iff_ne.mpr c4
            have c4b2 : ¬ ((rd_L2 l0 x4_1) = []) := fun h_ => c4 (by rw [h_]; rfl)
            have H' := Z0.mk H
            clear H
            have p353 : 0 ≤ (x4_1 : Int) := of_decide_eq_true (by first | (with_reducible assumption) | assumption)
            have q353 : x4_1 < (l0.length : Int) := of_decide_eq_true (by first | (with_reducible assumption) | assumption)
            obtain ⟨ad353, A353_0, c353_0, e353, hx353_0, hl353_0, hi353_0⟩ := at_L2 HR0.out x4_1 p353 q353
            cases e353
            replace hx353_0 := (HB.out.cell (World.block_lt_of_cell? w _ hx353_0)).trans hx353_0
            have HR353_0 := Z0.mk hi353_0
            have HC353_0 := Z0.mk hl353_0
            clear hi353_0 hl353_0
            replace p353 := eq_true p353
            replace q353 := eq_true q353
            go_wp2
            go_roundg k1
            case measure => have := HK1.out; omega
            case rel => exact ⟨(x3_1), (wrap64 (x4_1 + 1)), (by first | rfl | (simp; done) | (simp [*]; done)), H', ⟨by have := HK1.out; omega⟩, ⟨by (with_reducible repeat (first | apply Kd.R_alloc | apply Kd.R_drewN | apply Kd.R_drew)); exact HO_3.out⟩, ⟨by repeat (first | (with_reducible first | exact HB.out | apply bwA | apply bwN | apply bw1) | exact HB.out)⟩⟩
        · rw [if_neg c3] at H
          exact absurd H (by simp)
      · rw [if_neg c2] at H
        have c2b0 : decide (x4_1 < (l0.length : Int)) = false := decide_eq_false c2
        clear c2
        obtain rfl := Option.some.inj H
        go_wp2
        go_ret
        exact ⟨_, by first | rfl | (simp [ewN, ewS] <;> rfl) | (simp [*, ewN, ewS] <;> rfl), by (with_reducible repeat (first | apply Kd.R_alloc | apply Kd.R_drewN | apply Kd.R_drew)); exact HO_3.out, by repeat (first | (with_reducible first | exact HB.out | apply bwA | apply bwN | apply bw1) | exact HB.out)⟩

end Go.Proofs.Ytcbjabnnokjnpaa.PA

namespace Go.Proofs.Ytcbjabnnokjnpaa.PA
open Go.RowKit Go.Proofs.YtcbjabnnokjnpaaW.PrintWords Go.Proofs.YtcbjabnnokjnpaaW.PrintLast Go.Proofs.YtcbjabnnokjnpaaW.PrintMore
attribute [local go_sem] max2_int min2_int max_two min_two max_three min_three max_four min_four   -- for this text's walks alone
set_option linter.unusedVariables false
set_option linter.unusedSimpArgs false

/-! ### culletref16_unlike: function 49 -/
mutual
def culletref16_unlike.l0 : Nat → List (List Int) → Bool → Int → Int → Option (Bool)
  | 0, _, _, _, _ => none
  | k + 1, x0, x1, x5, x6 => if x6 < (x0.length : Int) then (if x1 = true then (if 0 ≤ x6 then (culletref16_unlike.j1 k x0 x1 x5 x6 (((rd_L2 x0 x6).length : Int) == 0)) else (none)) else (culletref16_unlike.j1 k x0 x1 x5 x6 false)) else (some false)
def culletref16_unlike.j1 : Nat → List (List Int) → Bool → Int → Int → Bool → Option (Bool)
  | 0, _, _, _, _, _ => none
  | k + 1, x0, x1, x5, x6, x21 => if x21 = true then (culletref16_unlike.l0 k x0 x1 x5 (wrap64 (x6 + 1))) else (if x5 ≥ 0 then (if 0 ≤ x6 then (if x6 < (x0.length : Int) then (if ((rd_L2 x0 x6).length : Int) = x5 then (culletref16_unlike.l0 k x0 x1 ((rd_L2 x0 x6).length : Int) (wrap64 (x6 + 1))) else (some true)) else (none)) else (none)) else (if 0 ≤ x6 then (if x6 < (x0.length : Int) then (culletref16_unlike.l0 k x0 x1 ((rd_L2 x0 x6).length : Int) (wrap64 (x6 + 1))) else (none)) else (none)))
end
def culletref16_unlike.f (k : Nat) (l0 : List (List Int)) (a1 : Bool) : Option (Bool) := culletref16_unlike.l0 k l0 a1 (-1) 0
theorem culletref16_unlike.mono_l : ∀ k, (∀ y0 y1 y2 y3, LeO (culletref16_unlike.l0 k y0 y1 y2 y3) (culletref16_unlike.l0 (k + 1) y0 y1 y2 y3)) ∧ (∀ y0 y1 y2 y3 y4, LeO (culletref16_unlike.j1 k y0 y1 y2 y3 y4) (culletref16_unlike.j1 (k + 1) y0 y1 y2 y3 y4))
  | 0 => ⟨fun _ _ _ _ r h => by simp [culletref16_unlike.l0] at h, fun _ _ _ _ _ r h => by simp [culletref16_unlike.j1] at h⟩
  | k + 1 => by
    obtain ⟨ih0, ih1⟩ := culletref16_unlike.mono_l k
    refine ⟨?_, ?_⟩
    · intro y0 y1 y2 y3
      unfold culletref16_unlike.l0
      repeat' first
      | (with_reducible exact ih0 _ _ _ _)
      | (with_reducible exact ih1 _ _ _ _ _)
      | (with_reducible exact LeO.refl _)
      | (with_reducible exact LeO.none _)
      | (with_reducible refine LeO.ite ?_ ?_)
      | (with_reducible refine LeO.bind ?_ (fun _ => ?_))
      | exact ih0 _ _ _ _
      | exact ih1 _ _ _ _ _
      | exact LeO.none _
      | refine LeO.ite ?_ ?_
      | refine LeO.bind ?_ (fun _ => ?_)
    · intro y0 y1 y2 y3 y4
      unfold culletref16_unlike.j1
      repeat' first
      | (with_reducible exact ih0 _ _ _ _)
      | (with_reducible exact ih1 _ _ _ _ _)
      | (with_reducible exact LeO.refl _)
      | (with_reducible exact LeO.none _)
      | (with_reducible refine LeO.ite ?_ ?_)
      | (with_reducible refine LeO.bind ?_ (fun _ => ?_))
      | exact ih0 _ _ _ _
      | exact ih1 _ _ _ _ _
      | exact LeO.none _
      | refine LeO.ite ?_ ?_
      | refine LeO.bind ?_ (fun _ => ?_)
theorem culletref16_unlike.mono : ∀ a0 a1 k, LeO (culletref16_unlike.f k a0 a1) (culletref16_unlike.f (k + 1) a0 a1) := by
  intro a0 a1 k
  obtain ⟨ih0, ih1⟩ := culletref16_unlike.mono_l k
  unfold culletref16_unlike.f
  repeat' first
      | (with_reducible exact ih0 _ _ _ _)
      | (with_reducible exact ih1 _ _ _ _ _)
      | (with_reducible exact LeO.refl _)
      | (with_reducible exact LeO.none _)
      | (with_reducible refine LeO.ite ?_ ?_)
      | (with_reducible refine LeO.bind ?_ (fun _ => ?_))
      | exact ih0 _ _ _ _
      | exact ih1 _ _ _ _ _
      | exact LeO.none _
      | refine LeO.ite ?_ ?_
      | refine LeO.bind ?_ (fun _ => ?_)
set_option maxHeartbeats 8000000 in
set_option maxRecDepth 100000 in
theorem culletref16_unlike.calls (k : Nat) (A0 : Option Addr) (c0 : Nat) (l0 : List (List Int)) (a1 : Bool) (r : Bool) (w : World) (hr0 : Kd.C (Kd.slice 5 (Kd.int .u8)) w A0 l0.length l0) (hc0 : l0.length ≤ c0) (h : culletref16_unlike.f k l0 a1 = some r) :
    Calls Try.prog 49 #[.slice A0 l0.length c0, .bool a1] w fun e w' => e = .returned (.bool r) ∧ Drawn0 w w' := by
  have HR0 := Z0.mk hr0
  have HC0 := Z0.mk hc0
  clear hr0 hc0
  have H : (culletref16_unlike.l0 k l0 a1 (-1) 0) = some r := h
  clear h
  have H' := Z0.mk H
  clear H
  go_enter Try.func49, Try.ntmps49
  go_wp2
  go_loopg [5, 6] k (fun kq v5 v6 w' => ∃ (x5_1 : Int) (x6_1 : Int), v5 = .int .i64 x5_1 ∧ v6 = .int .i64 x6_1 ∧ Z0 (culletref16_unlike.l0 kq l0 a1 x5_1 x6_1 = some r) ∧ Z0 (kq ≤ k) ∧ Drawn0 w w')
  case atStart => exact ⟨((-1)), (0), (by first | rfl | (simp; done) | (simp [*]; done)), (by first | rfl | (simp; done) | (simp [*]; done)), H', ⟨Nat.le_refl _⟩, by repeat (first | exact Drawn0.refl _ | apply Drawn0.step)⟩
  case round =>
    clear H'
    try clear p2
    obtain ⟨x5_1, x6_1, rfl, rfl, HA, HK1, ⟨m1, rfl⟩⟩ := hrel
    cases gk with
    | zero => exact absurd HA.out (by simp [culletref16_unlike.l0])
    | succ k1 =>
      have H := HA.out
      clear HA
      simp only [culletref16_unlike.l0] at H
      by_cases c3 : x6_1 < (l0.length : Int)
      · rw [if_pos c3] at H
        have c3b0 : decide (x6_1 < (l0.length : Int)) = true := decide_eq_true c3
        clear c3
        have HC4 := Z0.mk H
        clear H
        go_upto_region 5 with (fail)
        go_cut [21] (fun v21 wc => ∃ (kq : Nat) (x21_3 : Bool), v21 = .bool x21_3 ∧ Z0 (culletref16_unlike.j1 kq l0 a1 x5_1 x6_1 x21_3 = some r) ∧ Z0 (kq ≤ k1) ∧ Drawn0 w wc)
        case first =>
          have H := HC4.out
          clear HC4
          by_cases c5 : a1 = true
          · subst c5
            have H1 : (if 0 ≤ x6_1 then (culletref16_unlike.j1 k1 l0 true x5_1 x6_1 (((rd_L2 l0 x6_1).length : Int) == 0)) else (none)) = some r := by rw [if_pos rfl] at H; exact H
            clear H
            have H := H1
            clear H1
            by_cases c6 : 0 ≤ x6_1
            · rw [if_pos c6] at H
              have c6b0 : decide (0 ≤ x6_1) = true := decide_eq_true c6
              clear c6
              (first | rw [c6b0] | (simp only [i64_w, i32_w]; rw [c6b0]) | skip)
              have H' := Z0.mk H
              clear H
              have p357 : 0 ≤ (x6_1 : Int) := of_decide_eq_true (by first | (with_reducible assumption) | assumption)
              have q357 : x6_1 < (l0.length : Int) := of_decide_eq_true (by first | (with_reducible assumption) | assumption)
              obtain ⟨ad357, A357_0, c357_0, e357, hx357_0, hl357_0, hi357_0⟩ := at_L2 HR0.out x6_1 p357 q357
              cases e357
              have HR357_0 := Z0.mk hi357_0
              have HC357_0 := Z0.mk hl357_0
              clear hi357_0 hl357_0
              replace p357 := eq_true p357
              replace q357 := eq_true q357
              go_wp2
              go_meet
              case rel => exact ⟨_, ((((rd_L2 l0 x6_1).length : Int) == 0)), (by first | rfl | (simp; done) | (simp [*]; done)), H', ⟨by have := HK1.out; first | omega | exact Nat.le_refl _⟩, by repeat (first | exact Drawn0.refl _ | apply Drawn0.step)⟩
            · rw [if_neg c6] at H
              exact absurd H (by simp)
          · replace c5 := Bool.eq_false_iff.mpr c5
            subst c5
            have H1 : (culletref16_unlike.j1 k1 l0 false x5_1 x6_1 false) = some r := by rw [if_neg (show ¬ (false = true) by decide)] at H; exact H
            clear H
            have H := H1
            clear H1
            have H' := Z0.mk H
            clear H
            go_wp2
            go_meet
            case rel => exact ⟨_, (false), (by first | rfl | (simp; done) | (simp [*]; done)), H', ⟨by have := HK1.out; first | omega | exact Nat.le_refl _⟩, by repeat (first | exact Drawn0.refl _ | apply Drawn0.step)⟩
        case rest =>
          clear HC4
          try clear p2
          try clear c3
          try clear c3b0
          try clear p3
          try clear q3
          try clear hx3
          try clear c4
          try clear c5
          try clear c6
          try clear c6b0
          try clear hx357_0
          try clear p2
          try clear p357
          try clear q357
          obtain ⟨kq, x21_3, rfl, HA, HJ3, ⟨mc3, rfl⟩⟩ := hcut
          cases kq with
          | zero => exact absurd HA.out (by simp [culletref16_unlike.j1])
          | succ kj3 =>
            have H := HA.out
            clear HA
            simp only [culletref16_unlike.j1] at H
            by_cases c7 : x21_3 = true
            · subst c7
              have H1 : (culletref16_unlike.l0 kj3 l0 a1 x5_1 (wrap64 (x6_1 + 1))) = some r := by rw [if_pos rfl] at H; exact H
              clear H
              have H := H1
              clear H1
              have H' := Z0.mk H
              clear H
              go_wp2
              go_roundg kj3
              case measure => have := HK1.out; have := HJ3.out; omega
              case rel => exact ⟨(x5_1), (wrap64 (x6_1 + 1)), (by first | rfl | (simp; done) | (simp [*]; done)), (by first | rfl | (simp; done) | (simp [*]; done)), H', ⟨by have := HK1.out; have := HJ3.out; omega⟩, by repeat (first | exact Drawn0.refl _ | apply Drawn0.step)⟩
            · replace c7 := Bool.eq_false_iff.mpr c7
              subst c7
              have H1 : (if x5_1 ≥ 0 then (if 0 ≤ x6_1 then (if x6_1 < (l0.length : Int) then (if ((rd_L2 l0 x6_1).length : Int) = x5_1 then (culletref16_unlike.l0 kj3 l0 a1 ((rd_L2 l0 x6_1).length : Int) (wrap64 (x6_1 + 1))) else (some true)) else (none)) else (none)) else (if 0 ≤ x6_1 then (if x6_1 < (l0.length : Int) then (culletref16_unlike.l0 kj3 l0 a1 ((rd_L2 l0 x6_1).length : Int) (wrap64 (x6_1 + 1))) else (none)) else (none))) = some r := by rw [if_neg (show ¬ (false = true) by decide)] at H; exact H
              clear H
              have H := H1
              clear H1
              by_cases c8 : x5_1 ≥ 0
              · rw [if_pos c8] at H
                have c8b0 : decide (0 ≤ x5_1) = true := decide_eq_true c8
                clear c8
                by_cases c9 : 0 ≤ x6_1
                · rw [if_pos c9] at H
                  have c9b0 : decide (0 ≤ x6_1) = true := decide_eq_true c9
                  clear c9
                  by_cases c10 : x6_1 < (l0.length : Int)
                  · rw [if_pos c10] at H
                    have c10b0 : decide (x6_1 < (l0.length : Int)) = true := decide_eq_true c10
                    clear c10
                    by_cases c11 : ((rd_L2 l0 x6_1).length : Int) = x5_1
                    · rw [if_pos c11] at H
                      have c11b0 : (((rd_L2 l0 x6_1).length : Int) == x5_1) = true := beq_iff_eq.mpr c11
                      have c11b1 : (((rd_L2 l0 x6_1).length : Int) != x5_1) = false := bne_eq_false_iff_eq.mpr c11
                      clear c11
                      have H' := Z0.mk H
                      clear H
                      have p358 : 0 ≤ (x6_1 : Int) := of_decide_eq_true (by first | (with_reducible assumption) | assumption)
                      have q358 : x6_1 < (l0.length : Int) := of_decide_eq_true (by first | (with_reducible assumption) | assumption)
                      obtain ⟨ad358, A358_0, c358_0, e358, hx358_0, hl358_0, hi358_0⟩ := at_L2 HR0.out x6_1 p358 q358
                      cases e358
                      have HR358_0 := Z0.mk hi358_0
                      have HC358_0 := Z0.mk hl358_0
                      clear hi358_0 hl358_0
                      replace p358 := eq_true p358
                      replace q358 := eq_true q358
                      have p359 : 0 ≤ (x6_1 : Int) := of_decide_eq_true (by first | (with_reducible assumption) | assumption)
                      have q359 : x6_1 < (l0.length : Int) := of_decide_eq_true (by first | (with_reducible assumption) | assumption)
                      obtain ⟨ad359, A359_0, c359_0, e359, hx359_0, hl359_0, hi359_0⟩ := at_L2 HR0.out x6_1 p359 q359
                      obtain rfl : ad358 = ad359 := (by injection e359)
                      have HR359_0 := Z0.mk hi359_0
                      have HC359_0 := Z0.mk hl359_0
                      clear hi359_0 hl359_0
                      replace p359 := eq_true p359
                      replace q359 := eq_true q359
                      have ea_ := Option.some.inj (hx358_0.symm.trans hx359_0)
                      injection ea_ with ea_ en_ ec_
                      subst ea_
                      subst ec_
                      clear en_
                      go_wp2
                      go_roundg kj3
                      case measure => have := HK1.out; have := HJ3.out; omega
                      case rel => exact ⟨(((rd_L2 l0 x6_1).length : Int)), (wrap64 (x6_1 + 1)), (by first | rfl | (simp; done) | (simp [*]; done)), (by first | rfl | (simp; done) | (simp [*]; done)), H', ⟨by have := HK1.out; have := HJ3.out; omega⟩, by repeat (first | exact Drawn0.refl _ | apply Drawn0.step)⟩
                    · rw [if_neg c11] at H
                      have c11b0 : (((rd_L2 l0 x6_1).length : Int) == x5_1) = false := beq_eq_false_iff_ne.mpr c11
                      have c11b1 : (((rd_L2 l0 x6_1).length : Int) != x5_1) = true := bne_iff_ne.mpr c11
                      obtain rfl := Option.some.inj H
                      have p358 : 0 ≤ (x6_1 : Int) := of_decide_eq_true (by first | (with_reducible assumption) | assumption)
                      have q358 : x6_1 < (l0.length : Int) := of_decide_eq_true (by first | (with_reducible assumption) | assumption)
                      obtain ⟨ad358, A358_0, c358_0, e358, hx358_0, hl358_0, hi358_0⟩ := at_L2 HR0.out x6_1 p358 q358
                      cases e358
                      have HR358_0 := Z0.mk hi358_0
                      have HC358_0 := Z0.mk hl358_0
                      clear hi358_0 hl358_0
                      replace p358 := eq_true p358
                      replace q358 := eq_true q358
                      go_wp2
                      go_ret
                      exact ⟨by first | rfl | (simp; done) | (simp [*]; done), by repeat (first | exact Drawn0.refl _ | apply Drawn0.step)⟩
                  · rw [if_neg c10] at H
                    exact absurd H (by simp)
                · rw [if_neg c9] at H
                  exact absurd H (by simp)
              · rw [if_neg c8] at H
                have c8b0 : decide (0 ≤ x5_1) = false := decide_eq_false c8
                clear c8
                by_cases c12 : 0 ≤ x6_1
                · rw [if_pos c12] at H
                  have c12b0 : decide (0 ≤ x6_1) = true := decide_eq_true c12
                  clear c12
                  by_cases c13 : x6_1 < (l0.length : Int)
                  · rw [if_pos c13] at H
                    have c13b0 : decide (x6_1 < (l0.length : Int)) = true := decide_eq_true c13
                    clear c13
                    have H' := Z0.mk H
                    clear H
                    have p360 : 0 ≤ (x6_1 : Int) := of_decide_eq_true (by first | (with_reducible assumption) | assumption)
                    have q360 : x6_1 < (l0.length : Int) := of_decide_eq_true (by first | (with_reducible assumption) | assumption)
                    obtain ⟨ad360, A360_0, c360_0, e360, hx360_0, hl360_0, hi360_0⟩ := at_L2 HR0.out x6_1 p360 q360
                    cases e360
                    have HR360_0 := Z0.mk hi360_0
                    have HC360_0 := Z0.mk hl360_0
                    clear hi360_0 hl360_0
                    replace p360 := eq_true p360
                    replace q360 := eq_true q360
                    go_wp2
                    go_roundg kj3
                    case measure => have := HK1.out; have := HJ3.out; omega
                    case rel => exact ⟨(((rd_L2 l0 x6_1).length : Int)), (wrap64 (x6_1 + 1)), (by first | rfl | (simp; done) | (simp [*]; done)), (by first | rfl | (simp; done) | (simp [*]; done)), H', ⟨by have := HK1.out; have := HJ3.out; omega⟩, by repeat (first | exact Drawn0.refl _ | apply Drawn0.step)⟩
                  · rw [if_neg c13] at H
                    exact absurd H (by simp)
                · rw [if_neg c12] at H
                  exact absurd H (by simp)
      · rw [if_neg c3] at H
        have c3b0 : decide (x6_1 < (l0.length : Int)) = false := decide_eq_false c3
        clear c3
        obtain rfl := Option.some.inj H
        go_wp2
        go_ret
        exact ⟨by first | rfl | (simp; done) | (simp [*]; done), by repeat (first | exact Drawn0.refl _ | apply Drawn0.step)⟩

end Go.Proofs.Ytcbjabnnokjnpaa.PA

namespace Go.Proofs.Ytcbjabnnokjnpaa.PA
open Go.RowKit Go.Proofs.YtcbjabnnokjnpaaW.PrintWords Go.Proofs.YtcbjabnnokjnpaaW.PrintLast Go.Proofs.YtcbjabnnokjnpaaW.PrintMore
attribute [local go_sem] max2_int min2_int max_two min_two max_three min_three max_four min_four   -- for this text's walks alone
set_option linter.unusedVariables false
set_option linter.unusedSimpArgs false

/-! ### culletref16_longest: function 50 -/
def culletref16_longest.l0 : Nat → List (List Int) → Int → Int → Option (Int)
  | 0, _, _, _ => none
  | k + 1, x0, x3, x4 => if x4 < (x0.length : Int) then (if 0 ≤ x4 then (if ((rd_L2 x0 x4).length : Int) > x3 then (culletref16_longest.l0 k x0 ((rd_L2 x0 x4).length : Int) (wrap64 (x4 + 1))) else (culletref16_longest.l0 k x0 x3 (wrap64 (x4 + 1)))) else (none)) else (some x3)
def culletref16_longest.f (k : Nat) (l0 : List (List Int)) : Option (Int) := culletref16_longest.l0 k l0 0 0
theorem culletref16_longest.mono_l : ∀ k, (∀ y0 y1 y2, LeO (culletref16_longest.l0 k y0 y1 y2) (culletref16_longest.l0 (k + 1) y0 y1 y2))
  | 0 => fun _ _ _ r h => by simp [culletref16_longest.l0] at h
  | k + 1 => by
    have ih0 := culletref16_longest.mono_l k
    · intro y0 y1 y2
      unfold culletref16_longest.l0
      repeat' first
      | (with_reducible exact ih0 _ _ _)
      | (with_reducible exact LeO.refl _)
      | (with_reducible exact LeO.none _)
      | (with_reducible refine LeO.ite ?_ ?_)
      | (with_reducible refine LeO.bind ?_ (fun _ => ?_))
      | exact ih0 _ _ _
      | exact LeO.none _
      | refine LeO.ite ?_ ?_
      | refine LeO.bind ?_ (fun _ => ?_)
theorem culletref16_longest.mono : ∀ a0 k, LeO (culletref16_longest.f k a0) (culletref16_longest.f (k + 1) a0) := by
  intro a0 k
  have ih0 := culletref16_longest.mono_l k
  unfold culletref16_longest.f
  repeat' first
      | (with_reducible exact ih0 _ _ _)
      | (with_reducible exact LeO.refl _)
      | (with_reducible exact LeO.none _)
      | (with_reducible refine LeO.ite ?_ ?_)
      | (with_reducible refine LeO.bind ?_ (fun _ => ?_))
      | exact ih0 _ _ _
      | exact LeO.none _
      | refine LeO.ite ?_ ?_
      | refine LeO.bind ?_ (fun _ => ?_)
set_option maxHeartbeats 8000000 in
set_option maxRecDepth 100000 in
theorem culletref16_longest.calls (k : Nat) (A0 : Option Addr) (c0 : Nat) (l0 : List (List Int)) (r : Int) (w : World) (hr0 : Kd.C (Kd.slice 5 (Kd.int .u8)) w A0 l0.length l0) (hc0 : l0.length ≤ c0) (h : culletref16_longest.f k l0 = some r) :
    Calls Try.prog 50 #[.slice A0 l0.length c0] w fun e w' => e = .returned (.int .i64 r) ∧ Drawn0 w w' := by
  have HR0 := Z0.mk hr0
  have HC0 := Z0.mk hc0
  clear hr0 hc0
  have H : (culletref16_longest.l0 k l0 0 0) = some r := h
  clear h
  have H' := Z0.mk H
  clear H
  go_enter Try.func50, Try.ntmps50
  go_wp2
  go_loopg [3, 4] k (fun kq v3 v4 w' => ∃ (x3_1 : Int) (x4_1 : Int), v3 = .int .i64 x3_1 ∧ v4 = .int .i64 x4_1 ∧ Z0 (culletref16_longest.l0 kq l0 x3_1 x4_1 = some r) ∧ Z0 (kq ≤ k) ∧ Drawn0 w w')
  case atStart => exact ⟨(0), (0), (by first | rfl | (simp; done) | (simp [*]; done)), (by first | rfl | (simp; done) | (simp [*]; done)), H', ⟨Nat.le_refl _⟩, by repeat (first | exact Drawn0.refl _ | apply Drawn0.step)⟩
  case round =>
    clear H'
    obtain ⟨x3_1, x4_1, rfl, rfl, HA, HK1, ⟨m1, rfl⟩⟩ := hrel
    cases gk with
    | zero => exact absurd HA.out (by simp [culletref16_longest.l0])
    | succ k1 =>
      have H := HA.out
      clear HA
      simp only [culletref16_longest.l0] at H
      by_cases c2 : x4_1 < (l0.length : Int)
      · rw [if_pos c2] at H
        have c2b0 : decide (x4_1 < (l0.length : Int)) = true := decide_eq_true c2
        clear c2
        by_cases c3 : 0 ≤ x4_1
        · rw [if_pos c3] at H
          have c3b0 : decide (0 ≤ x4_1) = true := decide_eq_true c3
          clear c3
          by_cases c4 : ((rd_L2 l0 x4_1).length : Int) > x3_1
          · rw [if_pos c4] at H
            have c4b0 : decide (x3_1 < ((rd_L2 l0 x4_1).length : Int)) = true := decide_eq_true c4
            clear c4
            have H' := Z0.mk H
            clear H
            have p361 : 0 ≤ (x4_1 : Int) := of_decide_eq_true (by first | (with_reducible assumption) | assumption)
            have q361 : x4_1 < (l0.length : Int) := of_decide_eq_true (by first | (with_reducible assumption) | assumption)
            obtain ⟨ad361, A361_0, c361_0, e361, hx361_0, hl361_0, hi361_0⟩ := at_L2 HR0.out x4_1 p361 q361
            cases e361
            have HR361_0 := Z0.mk hi361_0
            have HC361_0 := Z0.mk hl361_0
            clear hi361_0 hl361_0
            replace p361 := eq_true p361
            replace q361 := eq_true q361
            have p362 : 0 ≤ (x4_1 : Int) := of_decide_eq_true (by first | (with_reducible assumption) | assumption)
            have q362 : x4_1 < (l0.length : Int) := of_decide_eq_true (by first | (with_reducible assumption) | assumption)
            obtain ⟨ad362, A362_0, c362_0, e362, hx362_0, hl362_0, hi362_0⟩ := at_L2 HR0.out x4_1 p362 q362
            obtain rfl : ad361 = ad362 := (by injection e362)
            have HR362_0 := Z0.mk hi362_0
            have HC362_0 := Z0.mk hl362_0
            clear hi362_0 hl362_0
            replace p362 := eq_true p362
            replace q362 := eq_true q362
            have ea_ := Option.some.inj (hx361_0.symm.trans hx362_0)
            injection ea_ with ea_ en_ ec_
            subst ea_
            subst ec_
            clear en_
            go_wp2
            go_roundg k1
            case measure => have := HK1.out; omega
            case rel => exact ⟨(((rd_L2 l0 x4_1).length : Int)), (wrap64 (x4_1 + 1)), (by first | rfl | (simp; done) | (simp [*]; done)), (by first | rfl | (simp; done) | (simp [*]; done)), H', ⟨by have := HK1.out; omega⟩, by repeat (first | exact Drawn0.refl _ | apply Drawn0.step)⟩
          · rw [if_neg c4] at H
            have c4b0 : decide (x3_1 < ((rd_L2 l0 x4_1).length : Int)) = false := decide_eq_false c4
            clear c4
            have H' := Z0.mk H
            clear H
            have p361 : 0 ≤ (x4_1 : Int) := of_decide_eq_true (by first | (with_reducible assumption) | assumption)
            have q361 : x4_1 < (l0.length : Int) := of_decide_eq_true (by first | (with_reducible assumption) | assumption)
            obtain ⟨ad361, A361_0, c361_0, e361, hx361_0, hl361_0, hi361_0⟩ := at_L2 HR0.out x4_1 p361 q361
            cases e361
            have HR361_0 := Z0.mk hi361_0
            have HC361_0 := Z0.mk hl361_0
            clear hi361_0 hl361_0
            replace p361 := eq_true p361
            replace q361 := eq_true q361
            go_wp2
            go_roundg k1
            case measure => have := HK1.out; omega
            case rel => exact ⟨(x3_1), (wrap64 (x4_1 + 1)), (by first | rfl | (simp; done) | (simp [*]; done)), (by first | rfl | (simp; done) | (simp [*]; done)), H', ⟨by have := HK1.out; omega⟩, by repeat (first | exact Drawn0.refl _ | apply Drawn0.step)⟩
        · rw [if_neg c3] at H
          exact absurd H (by simp)
      · rw [if_neg c2] at H
        have c2b0 : decide (x4_1 < (l0.length : Int)) = false := decide_eq_false c2
        clear c2
        obtain rfl := Option.some.inj H
        go_wp2
        go_ret
        exact ⟨by first | rfl | (simp; done) | (simp [*]; done), by repeat (first | exact Drawn0.refl _ | apply Drawn0.step)⟩

end Go.Proofs.Ytcbjabnnokjnpaa.PA

namespace Go.Proofs.Ytcbjabnnokjnpaa.PA
open Go.RowKit Go.Proofs.YtcbjabnnokjnpaaW.PrintWords Go.Proofs.YtcbjabnnokjnpaaW.PrintLast Go.Proofs.YtcbjabnnokjnpaaW.PrintMore
attribute [local go_sem] max2_int min2_int max_two min_two max_three min_three max_four min_four   -- for this text's walks alone
set_option linter.unusedVariables false
set_option linter.unusedSimpArgs false

/-! ### culletref16_Whole: function 44 -/
def culletref16_Whole.f (k : Nat) (a0 : Int) (a1 : Int) (a2 : Int) (l3 : List (List Int)) : Option (Int × Int) := (culletref16_Params.f k a0 a1 a2).bind fun t363 => (if t363 = 0 then (if (l3.length : Int) = (wrap64 (a1 + a2)) then ((culletref16_empties.f k l3).bind fun t364 => (if (t364.length : Int) > 0 then (some (0, 161)) else ((culletref16_unlike.f k l3 false).bind fun t367 => (if t367 = true then (some (0, 162)) else ((culletref16_longest.f k l3).bind fun t368 => (if a0 = 2 then (if (Int.tmod t368 2) = 1 then (some (0, 8)) else (some (t368, 0))) else (some (t368, 0)))))))) else (some (0, 160))) else (some (0, t363)))
theorem culletref16_Whole.mono : ∀ a0 a1 a2 a3 k, LeO (culletref16_Whole.f k a0 a1 a2 a3) (culletref16_Whole.f (k + 1) a0 a1 a2 a3) := by
  intro a0 a1 a2 a3 k
  unfold culletref16_Whole.f
  repeat' first
      | (with_reducible exact culletref16_Params.mono _ _ _ _)
      | (with_reducible exact culletref16_empties.mono _ _)
      | (with_reducible exact culletref16_longest.mono _ _)
      | (with_reducible exact culletref16_unlike.mono _ _ _)
      | (with_reducible exact LeO.refl _)
      | (with_reducible exact LeO.none _)
      | (with_reducible refine LeO.ite ?_ ?_)
      | (with_reducible refine LeO.bind ?_ (fun _ => ?_))
      | exact culletref16_Params.mono _ _ _ _
      | exact culletref16_empties.mono _ _
      | exact culletref16_longest.mono _ _
      | exact culletref16_unlike.mono _ _ _
      | exact LeO.none _
      | refine LeO.ite ?_ ?_
      | refine LeO.bind ?_ (fun _ => ?_)
set_option maxHeartbeats 8000000 in
set_option maxRecDepth 100000 in
theorem culletref16_Whole.calls (k : Nat) (a0 : Int) (a1 : Int) (a2 : Int) (A3 : Option Addr) (c3 : Nat) (l3 : List (List Int)) (r1 : Int) (r2 : Int) (w : World) (hr3 : Kd.C (Kd.slice 5 (Kd.int .u8)) w A3 l3.length l3) (hc3 : l3.length ≤ c3) (h : culletref16_Whole.f k a0 a1 a2 l3 = some (r1, r2)) :
    Calls Try.prog 44 #[.int .i64 a0, .int .i64 a1, .int .i64 a2, .slice A3 l3.length c3] w fun e w' => e = .returned (.tuple #[.int .i64 r1, .int .i64 r2]) ∧ Below w.heap.size w w' := by
  have HR3 := Z0.mk hr3
  have HC3 := Z0.mk hc3
  clear hr3 hc3
  have HB := Z0.mk (Below.refl w.heap.size w)
  have H : ((culletref16_Params.f k a0 a1 a2).bind fun t363 => (if t363 = 0 then (if (l3.length : Int) = (wrap64 (a1 + a2)) then ((culletref16_empties.f k l3).bind fun t364 => (if (t364.length : Int) > 0 then (some (0, 161)) else ((culletref16_unlike.f k l3 false).bind fun t367 => (if t367 = true then (some (0, 162)) else ((culletref16_longest.f k l3).bind fun t368 => (if a0 = 2 then (if (Int.tmod t368 2) = 1 then (some (0, 8)) else (some (t368, 0))) else (some (t368, 0)))))))) else (some (0, 160))) else (some (0, t363)))) = some (r1, r2) := h
  clear h
  replace H := Option.bind_eq_some_iff.mp H
  obtain ⟨t363, A50, H⟩ := H
  try dsimp only at H
  have A5 := Z0.mk A50
  clear A50
  by_cases c6 : t363 = 0
  · rw [if_pos c6] at H
    have c6b0 : (t363 == 0) = true := beq_iff_eq.mpr c6
    have c6b1 : (t363 != 0) = false := bne_eq_false_iff_eq.mpr c6
    clear c6
    by_cases c7 : (l3.length : Int) = (wrap64 (a1 + a2))
    · rw [if_pos c7] at H
      have c7b0 : ((l3.length : Int) == (wrap64 (a1 + a2))) = true := beq_iff_eq.mpr c7
      have c7b1 : ((l3.length : Int) != (wrap64 (a1 + a2))) = false := bne_eq_false_iff_eq.mpr c7
      clear c7
      replace H := Option.bind_eq_some_iff.mp H
      obtain ⟨t364, A80, H⟩ := H
      try dsimp only at H
      have A8 := Z0.mk A80
      clear A80
      by_cases c9 : (t364.length : Int) > 0
      · rw [if_pos c9] at H
        have c9b0 : decide (0 < (t364.length : Int)) = true := decide_eq_true c9
        have c9b1 : decide (0 < t364.length) = true := decide_eq_true (by omega)
        clear c9
        simp only [Option.some.injEq, Prod.mk.injEq] at H
        obtain ⟨rfl, rfl⟩ := H
        go_enter Try.func44, Try.ntmps44
        go_wp2_with (first | ((with_reducible refine gate_callee (f := 20) rfl ?_); refine goesL_ (some 15) rfl rfl Try.func20 (by kernel_rfl) rfl #[.int .i64 a0, .int .i64 a1, .int .i64 a2] rfl (by (try simp only [List.map_toArray, List.map_cons, List.map_nil]); first | done | rfl | (simp only [List.length_drop, List.length_take]; rfl)) ?_; (with_reducible refine (culletref16_Params.calls k a0 a1 a2 t363 _ A5.out).mono ?_); rintro e w' ⟨rfl, ⟨nd, rfl⟩⟩; refine ⟨_, rfl, ?_⟩) | ((with_reducible refine gate_callee (f := 48) rfl ?_); refine goesL_ (some 26) rfl rfl Try.func48 (by kernel_rfl) rfl #[.slice A3 l3.length c3] rfl (by (try simp only [List.map_toArray, List.map_cons, List.map_nil]); first | done | rfl | (simp only [List.length_drop, List.length_take]; rfl)) ?_; (with_reducible refine (culletref16_empties.calls k _ _ l3 t364 _ ?side1 ?side2 A8.out).mono ?_); (case side1 => repeat (first | exact HR3.out | (with_reducible refine Kd.C_alloc ?_ _) | (with_reducible refine Kd.C_drewN ?_ _) | (with_reducible refine Kd.C_drew ?_))); (case side2 => exact HC3.out); rintro e w10 ⟨v365, rfl, ho0, hb⟩; refine ⟨_, rfl, ?_⟩; have n0_ := Z0.mk (Kd.R_lower ho0 (bwZ (by repeat (first | (with_reducible first | exact HB.out | apply bwA | apply bwN | apply bw1) | exact HB.out)))); have n1_ := Z0.mk (bwT (by repeat (first | (with_reducible first | exact HB.out | apply bwA | apply bwN | apply bw1) | exact HB.out)) hb); clear HB; have HO366 := n0_; have HB := n1_; clear n0_ n1_; (try clear hb); (try clear hb2); (try clear hk); (try clear hi); (try clear ho0); obtain ⟨Ao11, co11, eo11⟩ := Kd.R_slice HO366.out; subst eo11))
        go_ret2
        exact ⟨by first | rfl | (simp [ewN, ewS] <;> rfl) | (simp [*, ewN, ewS] <;> rfl), by repeat (first | (with_reducible first | exact HB.out | apply bwA | apply bwN | apply bw1) | exact HB.out)⟩
      · rw [if_neg c9] at H
        have c9b0 : decide (0 < (t364.length : Int)) = false := decide_eq_false c9
        have c9b1 : decide (0 < t364.length) = false := decide_eq_false (by omega)
        clear c9
        replace H := Option.bind_eq_some_iff.mp H
        obtain ⟨t367, A120, H⟩ := H
        try dsimp only at H
        have A12 := Z0.mk A120
        clear A120
        by_cases c13 : t367 = true
        · subst c13
          have H1 : (some (0, 162)) = some (r1, r2) := by rw [if_pos rfl] at H; exact H
          clear H
          have H := H1
          clear H1
          simp only [Option.some.injEq, Prod.mk.injEq] at H
          obtain ⟨rfl, rfl⟩ := H
          go_enter Try.func44, Try.ntmps44
          go_wp2_with (first | ((with_reducible refine gate_callee (f := 20) rfl ?_); refine goesL_ (some 15) rfl rfl Try.func20 (by kernel_rfl) rfl #[.int .i64 a0, .int .i64 a1, .int .i64 a2] rfl (by (try simp only [List.map_toArray, List.map_cons, List.map_nil]); first | done | rfl | (simp only [List.length_drop, List.length_take]; rfl)) ?_; (with_reducible refine (culletref16_Params.calls k a0 a1 a2 t363 _ A5.out).mono ?_); rintro e w' ⟨rfl, ⟨nd, rfl⟩⟩; refine ⟨_, rfl, ?_⟩) | ((with_reducible refine gate_callee (f := 48) rfl ?_); refine goesL_ (some 26) rfl rfl Try.func48 (by kernel_rfl) rfl #[.slice A3 l3.length c3] rfl (by (try simp only [List.map_toArray, List.map_cons, List.map_nil]); first | done | rfl | (simp only [List.length_drop, List.length_take]; rfl)) ?_; (with_reducible refine (culletref16_empties.calls k _ _ l3 t364 _ ?side1 ?side2 A8.out).mono ?_); (case side1 => repeat (first | exact HR3.out | (with_reducible refine Kd.C_alloc ?_ _) | (with_reducible refine Kd.C_drewN ?_ _) | (with_reducible refine Kd.C_drew ?_))); (case side2 => exact HC3.out); rintro e w14 ⟨v365, rfl, ho0, hb⟩; refine ⟨_, rfl, ?_⟩; have n0_ := Z0.mk (Kd.R_lower ho0 (bwZ (by repeat (first | (with_reducible first | exact HB.out | apply bwA | apply bwN | apply bw1) | exact HB.out)))); have n1_ := Z0.mk (bwT (by repeat (first | (with_reducible first | exact HB.out | apply bwA | apply bwN | apply bw1) | exact HB.out)) hb); clear HB; have HO366 := n0_; have HB := n1_; clear n0_ n1_; (try clear hb); (try clear hb2); (try clear hk); (try clear hi); (try clear ho0); obtain ⟨Ao15, co15, eo15⟩ := Kd.R_slice HO366.out; subst eo15) | ((with_reducible refine gate_callee (f := 49) rfl ?_); refine goesL_ (some 30) rfl rfl Try.func49 (by kernel_rfl) rfl #[.slice A3 l3.length c3, .bool false] rfl (by (try simp only [List.map_toArray, List.map_cons, List.map_nil]); first | done | rfl | (simp only [List.length_drop, List.length_take]; rfl)) ?_; (with_reducible refine (culletref16_unlike.calls k _ _ l3 false true _ ?side1 ?side2 A12.out).mono ?_); (case side1 => repeat (first | exact (Kd.C_below HR3.out HB.out) | (with_reducible refine Kd.C_alloc ?_ _) | (with_reducible refine Kd.C_drewN ?_ _) | (with_reducible refine Kd.C_drew ?_))); (case side2 => exact HC3.out); rintro e w' ⟨rfl, ⟨nd, rfl⟩⟩; refine ⟨_, rfl, ?_⟩))
          go_ret2
          exact ⟨by first | rfl | (simp [ewN, ewS] <;> rfl) | (simp [*, ewN, ewS] <;> rfl), by repeat (first | (with_reducible first | exact HB.out | apply bwA | apply bwN | apply bw1) | exact HB.out)⟩
        · replace c13 := Bool.eq_false_iff.mpr c13
          subst c13
          have H1 : ((culletref16_longest.f k l3).bind fun t368 => (if a0 = 2 then (if (Int.tmod t368 2) = 1 then (some (0, 8)) else (some (t368, 0))) else (some (t368, 0)))) = some (r1, r2) := by rw [if_neg (show ¬ (false = true) by decide)] at H; exact H
          clear H
          have H := H1
          clear H1
          replace H := Option.bind_eq_some_iff.mp H
          obtain ⟨t368, A160, H⟩ := H
          try dsimp only at H
          have A16 := Z0.mk A160
          clear A160
          by_cases c17 : a0 = 2
          · rw [if_pos c17] at H
            have c17b0 : (a0 == 2) = true := beq_iff_eq.mpr c17
            have c17b1 : (a0 != 2) = false := bne_eq_false_iff_eq.mpr c17
            clear c17
            by_cases c18 : (Int.tmod t368 2) = 1
            · rw [if_pos c18] at H
              have c18b0 : ((Int.tmod t368 2) == 1) = true := beq_iff_eq.mpr c18
              have c18b1 : ((Int.tmod t368 2) != 1) = false := bne_eq_false_iff_eq.mpr c18
              clear c18
              simp only [Option.some.injEq, Prod.mk.injEq] at H
              obtain ⟨rfl, rfl⟩ := H
              go_enter Try.func44, Try.ntmps44
              go_wp2_with (first | ((with_reducible refine gate_callee (f := 20) rfl ?_); refine goesL_ (some 15) rfl rfl Try.func20 (by kernel_rfl) rfl #[.int .i64 a0, .int .i64 a1, .int .i64 a2] rfl (by (try simp only [List.map_toArray, List.map_cons, List.map_nil]); first | done | rfl | (simp only [List.length_drop, List.length_take]; rfl)) ?_; (with_reducible refine (culletref16_Params.calls k a0 a1 a2 t363 _ A5.out).mono ?_); rintro e w' ⟨rfl, ⟨nd, rfl⟩⟩; refine ⟨_, rfl, ?_⟩) | ((with_reducible refine gate_callee (f := 48) rfl ?_); refine goesL_ (some 26) rfl rfl Try.func48 (by kernel_rfl) rfl #[.slice A3 l3.length c3] rfl (by (try simp only [List.map_toArray, List.map_cons, List.map_nil]); first | done | rfl | (simp only [List.length_drop, List.length_take]; rfl)) ?_; (with_reducible refine (culletref16_empties.calls k _ _ l3 t364 _ ?side1 ?side2 A8.out).mono ?_); (case side1 => repeat (first | exact HR3.out | (with_reducible refine Kd.C_alloc ?_ _) | (with_reducible refine Kd.C_drewN ?_ _) | (with_reducible refine Kd.C_drew ?_))); (case side2 => exact HC3.out); rintro e w19 ⟨v365, rfl, ho0, hb⟩; refine ⟨_, rfl, ?_⟩; have n0_ := Z0.mk (Kd.R_lower ho0 (bwZ (by repeat (first | (with_reducible first | exact HB.out | apply bwA | apply bwN | apply bw1) | exact HB.out)))); have n1_ := Z0.mk (bwT (by repeat (first | (with_reducible first | exact HB.out | apply bwA | apply bwN | apply bw1) | exact HB.out)) hb); clear HB; have HO366 := n0_; have HB := n1_; clear n0_ n1_; (try clear hb); (try clear hb2); (try clear hk); (try clear hi); (try clear ho0); obtain ⟨Ao20, co20, eo20⟩ := Kd.R_slice HO366.out; subst eo20) | ((with_reducible refine gate_callee (f := 49) rfl ?_); refine goesL_ (some 30) rfl rfl Try.func49 (by kernel_rfl) rfl #[.slice A3 l3.length c3, .bool false] rfl (by (try simp only [List.map_toArray, List.map_cons, List.map_nil]); first | done | rfl | (simp only [List.length_drop, List.length_take]; rfl)) ?_; (with_reducible refine (culletref16_unlike.calls k _ _ l3 false false _ ?side1 ?side2 A12.out).mono ?_); (case side1 => repeat (first | exact (Kd.C_below HR3.out HB.out) | (with_reducible refine Kd.C_alloc ?_ _) | (with_reducible refine Kd.C_drewN ?_ _) | (with_reducible refine Kd.C_drew ?_))); (case side2 => exact HC3.out); rintro e w' ⟨rfl, ⟨nd, rfl⟩⟩; refine ⟨_, rfl, ?_⟩) | ((with_reducible refine gate_callee (f := 50) rfl ?_); refine goesL_ (some 32) rfl rfl Try.func50 (by kernel_rfl) rfl #[.slice A3 l3.length c3] rfl (by (try simp only [List.map_toArray, List.map_cons, List.map_nil]); first | done | rfl | (simp only [List.length_drop, List.length_take]; rfl)) ?_; (with_reducible refine (culletref16_longest.calls k _ _ l3 t368 _ ?side1 ?side2 A16.out).mono ?_); (case side1 => repeat (first | exact (Kd.C_below HR3.out (by repeat (first | (with_reducible first | exact HB.out | apply bwA | apply bwN | apply bw1) | exact HB.out))) | (with_reducible refine Kd.C_alloc ?_ _) | (with_reducible refine Kd.C_drewN ?_ _) | (with_reducible refine Kd.C_drew ?_))); (case side2 => exact HC3.out); rintro e w' ⟨rfl, ⟨nd, rfl⟩⟩; refine ⟨_, rfl, ?_⟩))
              go_ret2
              exact ⟨by first | rfl | (simp [ewN, ewS] <;> rfl) | (simp [*, ewN, ewS] <;> rfl), by repeat (first | (with_reducible first | exact HB.out | apply bwA | apply bwN | apply bw1) | exact HB.out)⟩
            · rw [if_neg c18] at H
              have c18b0 : ((Int.tmod t368 2) == 1) = false := beq_eq_false_iff_ne.mpr c18
              have c18b1 : ((Int.tmod t368 2) != 1) = true := bne_iff_ne.mpr c18
              simp only [Option.some.injEq, Prod.mk.injEq] at H
              obtain ⟨rfl, rfl⟩ := H
              go_enter Try.func44, Try.ntmps44
              go_wp2_with (first | ((with_reducible refine gate_callee (f := 20) rfl ?_); refine goesL_ (some 15) rfl rfl Try.func20 (by kernel_rfl) rfl #[.int .i64 a0, .int .i64 a1, .int .i64 a2] rfl (by (try simp only [List.map_toArray, List.map_cons, List.map_nil]); first | done | rfl | (simp only [List.length_drop, List.length_take]; rfl)) ?_; (with_reducible refine (culletref16_Params.calls k a0 a1 a2 t363 _ A5.out).mono ?_); rintro e w' ⟨rfl, ⟨nd, rfl⟩⟩; refine ⟨_, rfl, ?_⟩) | ((with_reducible refine gate_callee (f := 48) rfl ?_); refine goesL_ (some 26) rfl rfl Try.func48 (by kernel_rfl) rfl #[.slice A3 l3.length c3] rfl (by (try simp only [List.map_toArray, List.map_cons, List.map_nil]); first | done | rfl | (simp only [List.length_drop, List.length_take]; rfl)) ?_; (with_reducible refine (culletref16_empties.calls k _ _ l3 t364 _ ?side1 ?side2 A8.out).mono ?_); (case side1 => repeat (first | exact HR3.out | (with_reducible refine Kd.C_alloc ?_ _) | (with_reducible refine Kd.C_drewN ?_ _) | (with_reducible refine Kd.C_drew ?_))); (case side2 => exact HC3.out); rintro e w21 ⟨v365, rfl, ho0, hb⟩; refine ⟨_, rfl, ?_⟩; have n0_ := Z0.mk (Kd.R_lower ho0 (bwZ (by repeat (first | (with_reducible first | exact HB.out | apply bwA | apply bwN | apply bw1) | exact HB.out)))); have n1_ := Z0.mk (bwT (by repeat (first | (with_reducible first | exact HB.out | apply bwA | apply bwN | apply bw1) | exact HB.out)) hb); clear HB; have HO366 := n0_; have HB := n1_; clear n0_ n1_; (try clear hb); (try clear hb2); (try clear hk); (try clear hi); (try clear ho0); obtain ⟨Ao22, co22, eo22⟩ := Kd.R_slice HO366.out; subst eo22) | ((with_reducible refine gate_callee (f := 49) rfl ?_); refine goesL_ (some 30) rfl rfl Try.func49 (by kernel_rfl) rfl #[.slice A3 l3.length c3, .bool false] rfl (by (try simp only [List.map_toArray, List.map_cons, List.map_nil]); first | done | rfl | (simp only [List.length_drop, List.length_take]; rfl)) ?_; (with_reducible refine (culletref16_unlike.calls k _ _ l3 false false _ ?side1 ?side2 A12.out).mono ?_); (case side1 => repeat (first | exact (Kd.C_below HR3.out HB.out) | (with_reducible refine Kd.C_alloc ?_ _) | (with_reducible refine Kd.C_drewN ?_ _) | (with_reducible refine Kd.C_drew ?_))); (case side2 => exact HC3.out); rintro e w' ⟨rfl, ⟨nd, rfl⟩⟩; refine ⟨_, rfl, ?_⟩) | ((with_reducible refine gate_callee (f := 50) rfl ?_); refine goesL_ (some 32) rfl rfl Try.func50 (by kernel_rfl) rfl #[.slice A3 l3.length c3] rfl (by (try simp only [List.map_toArray, List.map_cons, List.map_nil]); first | done | rfl | (simp only [List.length_drop, List.length_take]; rfl)) ?_; (with_reducible refine (culletref16_longest.calls k _ _ l3 t368 _ ?side1 ?side2 A16.out).mono ?_); (case side1 => repeat (first | exact (Kd.C_below HR3.out (by repeat (first | (with_reducible first | exact HB.out | apply bwA | apply bwN | apply bw1) | exact HB.out))) | (with_reducible refine Kd.C_alloc ?_ _) | (with_reducible refine Kd.C_drewN ?_ _) | (with_reducible refine Kd.C_drew ?_))); (case side2 => exact HC3.out); rintro e w' ⟨rfl, ⟨nd, rfl⟩⟩; refine ⟨_, rfl, ?_⟩))
              go_ret2
              exact ⟨by first | rfl | (simp [ewN, ewS] <;> rfl) | (simp [*, ewN, ewS] <;> rfl), by repeat (first | (with_reducible first | exact HB.out | apply bwA | apply bwN | apply bw1) | exact HB.out)⟩
          · rw [if_neg c17] at H
            have c17b0 : (a0 == 2) = false := beq_eq_false_iff_ne.mpr c17
            have c17b1 : (a0 != 2) = true := bne_iff_ne.mpr c17
            simp only [Option.some.injEq, Prod.mk.injEq] at H
            obtain ⟨rfl, rfl⟩ := H
            go_enter Try.func44, Try.ntmps44
            go_wp2_with (first | ((with_reducible refine gate_callee (f := 20) rfl ?_); refine goesL_ (some 15) rfl rfl Try.func20 (by kernel_rfl) rfl #[.int .i64 a0, .int .i64 a1, .int .i64 a2] rfl (by (try simp only [List.map_toArray, List.map_cons, List.map_nil]); first | done | rfl | (simp only [List.length_drop, List.length_take]; rfl)) ?_; (with_reducible refine (culletref16_Params.calls k a0 a1 a2 t363 _ A5.out).mono ?_); rintro e w' ⟨rfl, ⟨nd, rfl⟩⟩; refine ⟨_, rfl, ?_⟩) | ((with_reducible refine gate_callee (f := 48) rfl ?_); refine goesL_ (some 26) rfl rfl Try.func48 (by kernel_rfl) rfl #[.slice A3 l3.length c3] rfl (by (try simp only [List.map_toArray, List.map_cons, List.map_nil]); first | done | rfl | (simp only [List.length_drop, List.length_take]; rfl)) ?_; (with_reducible refine (culletref16_empties.calls k _ _ l3 t364 _ ?side1 ?side2 A8.out).mono ?_); (case side1 => repeat (first | exact HR3.out | (with_reducible refine Kd.C_alloc ?_ _) | (with_reducible refine Kd.C_drewN ?_ _) | (with_reducible refine Kd.C_drew ?_))); (case side2 => exact HC3.out); rintro e w23 ⟨v365, rfl, ho0, hb⟩; refine ⟨_, rfl, ?_⟩; have n0_ := Z0.mk (Kd.R_lower ho0 (bwZ (by repeat (first | (with_reducible first | exact HB.out | apply bwA | apply bwN | apply bw1) | exact HB.out)))); have n1_ := Z0.mk (bwT (by repeat (first | (with_reducible first | exact HB.out | apply bwA | apply bwN | apply bw1) | exact HB.out)) hb); clear HB; have HO366 := n0_; have HB := n1_; clear n0_ n1_; (try clear hb); (try clear hb2); (try clear hk); (try clear hi); (try clear ho0); obtain ⟨Ao24, co24, eo24⟩ := Kd.R_slice HO366.out; subst eo24) | ((with_reducible refine gate_callee (f := 49) rfl ?_); refine goesL_ (some 30) rfl rfl Try.func49 (by kernel_rfl) rfl #[.slice A3 l3.length c3, .bool false] rfl (by (try simp only [List.map_toArray, List.map_cons, List.map_nil]); first | done | rfl | (simp only [List.length_drop, List.length_take]; rfl)) ?_; (with_reducible refine (culletref16_unlike.calls k _ _ l3 false false _ ?side1 ?side2 A12.out).mono ?_); (case side1 => repeat (first | exact (Kd.C_below HR3.out HB.out) | (with_reducible refine Kd.C_alloc ?_ _) | (with_reducible refine Kd.C_drewN ?_ _) | (with_reducible refine Kd.C_drew ?_))); (case side2 => exact HC3.out); rintro e w' ⟨rfl, ⟨nd, rfl⟩⟩; refine ⟨_, rfl, ?_⟩) | ((with_reducible refine gate_callee (f := 50) rfl ?_); refine goesL_ (some 32) rfl rfl Try.func50 (by kernel_rfl) rfl #[.slice A3 l3.length c3] rfl (by (try simp only [List.map_toArray, List.map_cons, List.map_nil]); first | done | rfl | (simp only [List.length_drop, List.length_take]; rfl)) ?_; (with_reducible refine (culletref16_longest.calls k _ _ l3 t368 _ ?side1 ?side2 A16.out).mono ?_); (case side1 => repeat (first | exact (Kd.C_below HR3.out (by repeat (first | (with_reducible first | exact HB.out | apply bwA | apply bwN | apply bw1) | exact HB.out))) | (with_reducible refine Kd.C_alloc ?_ _) | (with_reducible refine Kd.C_drewN ?_ _) | (with_reducible refine Kd.C_drew ?_))); (case side2 => exact HC3.out); rintro e w' ⟨rfl, ⟨nd, rfl⟩⟩; refine ⟨_, rfl, ?_⟩))
            go_ret2
            exact ⟨by first | rfl | (simp [ewN, ewS] <;> rfl) | (simp [*, ewN, ewS] <;> rfl), by repeat (first | (with_reducible first | exact HB.out | apply bwA | apply bwN | apply bw1) | exact HB.out)⟩
    · rw [if_neg c7] at H
      have c7b0 : ((l3.length : Int) == (wrap64 (a1 + a2))) = false := beq_eq_false_iff_ne.mpr c7
      have c7b1 : ((l3.length : Int) != (wrap64 (a1 + a2))) = true := bne_iff_ne.mpr c7
      simp only [Option.some.injEq, Prod.mk.injEq] at H
      obtain ⟨rfl, rfl⟩ := H
      go_enter Try.func44, Try.ntmps44
      go_wp2_with (first | ((with_reducible refine gate_callee (f := 20) rfl ?_); refine goesL_ (some 15) rfl rfl Try.func20 (by kernel_rfl) rfl #[.int .i64 a0, .int .i64 a1, .int .i64 a2] rfl (by (try simp only [List.map_toArray, List.map_cons, List.map_nil]); first | done | rfl | (simp only [List.length_drop, List.length_take]; rfl)) ?_; (with_reducible refine (culletref16_Params.calls k a0 a1 a2 t363 _ A5.out).mono ?_); rintro e w' ⟨rfl, ⟨nd, rfl⟩⟩; refine ⟨_, rfl, ?_⟩))
      go_ret2
      exact ⟨by first | rfl | (simp [ewN, ewS] <;> rfl) | (simp [*, ewN, ewS] <;> rfl), by repeat (first | (with_reducible first | exact HB.out | apply bwA | apply bwN | apply bw1) | exact HB.out)⟩
  · rw [if_neg c6] at H
    have c6b0 : (t363 == 0) = false := beq_eq_false_iff_ne.mpr c6
    have c6b1 : (t363 != 0) = true := bne_iff_ne.mpr c6
    simp only [Option.some.injEq, Prod.mk.injEq] at H
    obtain ⟨rfl, rfl⟩ := H
    go_enter Try.func44, Try.ntmps44
    go_wp2_with (first | ((with_reducible refine gate_callee (f := 20) rfl ?_); refine goesL_ (some 15) rfl rfl Try.func20 (by kernel_rfl) rfl #[.int .i64 a0, .int .i64 a1, .int .i64 a2] rfl (by (try simp only [List.map_toArray, List.map_cons, List.map_nil]); first | done | rfl | (simp only [List.length_drop, List.length_take]; rfl)) ?_; (with_reducible refine (culletref16_Params.calls k a0 a1 a2 t363 _ A5.out).mono ?_); rintro e w' ⟨rfl, ⟨nd, rfl⟩⟩; refine ⟨_, rfl, ?_⟩))
    go_ret2
    exact ⟨by first | rfl | (simp [ewN, ewS] <;> rfl) | (simp [*, ewN, ewS] <;> rfl), by repeat (first | (with_reducible first | exact HB.out | apply bwA | apply bwN | apply bw1) | exact HB.out)⟩

end Go.Proofs.Ytcbjabnnokjnpaa.PA
