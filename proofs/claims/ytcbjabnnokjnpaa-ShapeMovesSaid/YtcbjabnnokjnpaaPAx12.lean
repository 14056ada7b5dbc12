-- Written by a program of this session (wip/drive.py, merge.py) for this seat.
import Derived.Test.YtcbjabnnokjnpaaPAx0
import Derived.Test.YtcbjabnnokjnpaaPAx7
import Derived.Test.YtcbjabnnokjnpaaPAx9
import Derived.Test.YtcbjabnnokjnpaaPAx11
namespace Go.Proofs.Ytcbjabnnokjnpaa.PA
open Go.RowKit Go.Proofs.YtcbjabnnokjnpaaW.PrintWords Go.Proofs.YtcbjabnnokjnpaaW.PrintLast Go.Proofs.YtcbjabnnokjnpaaW.PrintMore
attribute [local go_sem] max2_int min2_int max_two min_two max_three min_three max_four min_four   -- for this text's walks alone
set_option linter.unusedVariables false
set_option linter.unusedSimpArgs false

/-! ### culletlaw16_all: function 27 -/
mutual
def culletlaw16_all.l0 : Nat → Int → Int → List (S38) → Int → Int → Option (Bool)
  | 0, _, _, _, _, _ => none
  | k + 1, x1, x2, x12, x13, x14 => if x14 < x13 then (if 0 ≤ x14 then (if x14 < (x12.length : Int) then (if ((rd_T38 x12 x14).f0) < x1 then (culletlaw16_all.j1 k x1 x2 x12 x13 x14 true ((rd_T38 x12 x14).f0) ((rd_T38 x12 x14).f1) ((rd_T38 x12 x14).f2) ((rd_T38 x12 x14).f3) ((rd_T38 x12 x14).f4) ((rd_T38 x12 x14).f5) ((rd_T38 x12 x14).f6) ((rd_T38 x12 x14).f7)) else (culletlaw16_all.j1 k x1 x2 x12 x13 x14 (decide (((rd_T38 x12 x14).f0) > x2)) ((rd_T38 x12 x14).f0) ((rd_T38 x12 x14).f1) ((rd_T38 x12 x14).f2) ((rd_T38 x12 x14).f3) ((rd_T38 x12 x14).f4) ((rd_T38 x12 x14).f5) ((rd_T38 x12 x14).f6) ((rd_T38 x12 x14).f7))) else (none)) else (none)) else (some true)
def culletlaw16_all.j1 : Nat → Int → Int → List (S38) → Int → Int → Bool → Int → Int → Int → Int → Int → List (List Int) → List (List Int) → List Int → Option (Bool)
  | 0, _, _, _, _, _, _, _, _, _, _, _, _, _, _ => none
  | k + 1, x1, x2, x12, x13, x14, x27, x485000, x485001, x485002, x485003, x485004, x485005, x485006, x485007 => if x27 = true then (culletlaw16_all.l0 k x1 x2 x12 x13 (wrap64 (x14 + 1))) else (if x485000 ≤ 4 then ((culletlaw16_numbers.f k x485000 x485001 x485002 x485003 x485004 x485005 x485006 x485007).bind fun t485 => (if t485 = true then (culletlaw16_all.l0 k x1 x2 x12 x13 (wrap64 (x14 + 1))) else (some false))) else (if x485000 ≤ 7 then ((culletlaw16_tables.f k x485000 x485001 x485002 x485003 x485004 x485005 x485006 x485007).bind fun t486 => (if t486 = true then (culletlaw16_all.l0 k x1 x2 x12 x13 (wrap64 (x14 + 1))) else (some false))) else ((culletlaw16_moves.f k x485000 x485001 x485002 x485003 x485004 x485005 x485006 x485007).bind fun t487 => (if t487 = true then (culletlaw16_all.l0 k x1 x2 x12 x13 (wrap64 (x14 + 1))) else (some false)))))
end
def culletlaw16_all.f (k : Nat) (l0 : List (S38)) (a1 : Int) (a2 : Int) : Option (Bool) := (culletlaw16_awake.f k).bind fun t482 => (if t482 = true then (culletlaw16_all.l0 k a1 a2 l0 (l0.length : Int) 0) else (some false))
theorem culletlaw16_all.mono_l : ∀ k, (∀ y0 y1 y2 y3 y4, LeO (culletlaw16_all.l0 k y0 y1 y2 y3 y4) (culletlaw16_all.l0 (k + 1) y0 y1 y2 y3 y4)) ∧ (∀ y0 y1 y2 y3 y4 y5 y6 y7 y8 y9 y10 y11 y12 y13, LeO (culletlaw16_all.j1 k y0 y1 y2 y3 y4 y5 y6 y7 y8 y9 y10 y11 y12 y13) (culletlaw16_all.j1 (k + 1) y0 y1 y2 y3 y4 y5 y6 y7 y8 y9 y10 y11 y12 y13))
  | 0 => ⟨fun _ _ _ _ _ r h => by simp [culletlaw16_all.l0] at h, fun _ _ _ _ _ _ _ _ _ _ _ _ _ _ r h => by simp [culletlaw16_all.j1] at h⟩
  | k + 1 => by
    obtain ⟨ih0, ih1⟩ := culletlaw16_all.mono_l k
    refine ⟨?_, ?_⟩
    · intro y0 y1 y2 y3 y4
      unfold culletlaw16_all.l0
      repeat' first
      | (with_reducible exact ih0 _ _ _ _ _)
      | (with_reducible exact ih1 _ _ _ _ _ _ _ _ _ _ _ _ _ _)
      | (with_reducible exact culletlaw16_awake.mono _)
      | (with_reducible exact culletlaw16_moves.mono _ _ _ _ _ _ _ _ _)
      | (with_reducible exact culletlaw16_numbers.mono _ _ _ _ _ _ _ _ _)
      | (with_reducible exact culletlaw16_tables.mono _ _ _ _ _ _ _ _ _)
      | (with_reducible exact LeO.refl _)
      | (with_reducible exact LeO.none _)
      | (with_reducible refine LeO.ite ?_ ?_)
      | (with_reducible refine LeO.bind ?_ (fun _ => ?_))
      | exact ih0 _ _ _ _ _
      | exact ih1 _ _ _ _ _ _ _ _ _ _ _ _ _ _
      | exact culletlaw16_awake.mono _
      | exact culletlaw16_moves.mono _ _ _ _ _ _ _ _ _
      | exact culletlaw16_numbers.mono _ _ _ _ _ _ _ _ _
      | exact culletlaw16_tables.mono _ _ _ _ _ _ _ _ _
      | exact LeO.none _
      | refine LeO.ite ?_ ?_
      | refine LeO.bind ?_ (fun _ => ?_)
    · intro y0 y1 y2 y3 y4 y5 y6 y7 y8 y9 y10 y11 y12 y13
      unfold culletlaw16_all.j1
      repeat' first
      | (with_reducible exact ih0 _ _ _ _ _)
      | (with_reducible exact ih1 _ _ _ _ _ _ _ _ _ _ _ _ _ _)
      | (with_reducible exact culletlaw16_awake.mono _)
      | (with_reducible exact culletlaw16_moves.mono _ _ _ _ _ _ _ _ _)
      | (with_reducible exact culletlaw16_numbers.mono _ _ _ _ _ _ _ _ _)
      | (with_reducible exact culletlaw16_tables.mono _ _ _ _ _ _ _ _ _)
      | (with_reducible exact LeO.refl _)
      | (with_reducible exact LeO.none _)
      | (with_reducible refine LeO.ite ?_ ?_)
      | (with_reducible refine LeO.bind ?_ (fun _ => ?_))
      | exact ih0 _ _ _ _ _
      | exact ih1 _ _ _ _ _ _ _ _ _ _ _ _ _ _
      | exact culletlaw16_awake.mono _
      | exact culletlaw16_moves.mono _ _ _ _ _ _ _ _ _
      | exact culletlaw16_numbers.mono _ _ _ _ _ _ _ _ _
      | exact culletlaw16_tables.mono _ _ _ _ _ _ _ _ _
      | exact LeO.none _
      | refine LeO.ite ?_ ?_
      | refine LeO.bind ?_ (fun _ => ?_)
theorem culletlaw16_all.mono : ∀ a0 a1 a2 k, LeO (culletlaw16_all.f k a0 a1 a2) (culletlaw16_all.f (k + 1) a0 a1 a2) := by
  intro a0 a1 a2 k
  obtain ⟨ih0, ih1⟩ := culletlaw16_all.mono_l k
  unfold culletlaw16_all.f
  repeat' first
      | (with_reducible exact ih0 _ _ _ _ _)
      | (with_reducible exact ih1 _ _ _ _ _ _ _ _ _ _ _ _ _ _)
      | (with_reducible exact culletlaw16_awake.mono _)
      | (with_reducible exact culletlaw16_moves.mono _ _ _ _ _ _ _ _ _)
      | (with_reducible exact culletlaw16_numbers.mono _ _ _ _ _ _ _ _ _)
      | (with_reducible exact culletlaw16_tables.mono _ _ _ _ _ _ _ _ _)
      | (with_reducible exact LeO.refl _)
      | (with_reducible exact LeO.none _)
      | (with_reducible refine LeO.ite ?_ ?_)
      | (with_reducible refine LeO.bind ?_ (fun _ => ?_))
      | exact ih0 _ _ _ _ _
      | exact ih1 _ _ _ _ _ _ _ _ _ _ _ _ _ _
      | exact culletlaw16_awake.mono _
      | exact culletlaw16_moves.mono _ _ _ _ _ _ _ _ _
      | exact culletlaw16_numbers.mono _ _ _ _ _ _ _ _ _
      | exact culletlaw16_tables.mono _ _ _ _ _ _ _ _ _
      | exact LeO.none _
      | refine LeO.ite ?_ ?_
      | refine LeO.bind ?_ (fun _ => ?_)
set_option maxHeartbeats 8000000 in
set_option maxRecDepth 100000 in
theorem culletlaw16_all.calls (k : Nat) (A0 : Option Addr) (c0 : Nat) (l0 : List (S38)) (a1 : Int) (a2 : Int) (r : Bool) (w : World) (hr0 : Kd.C k38 w A0 l0.length l0) (hc0 : l0.length ≤ c0) (h : culletlaw16_all.f k l0 a1 a2 = some r) :
    Calls Try.prog 27 #[.slice A0 l0.length c0, .int .i64 a1, .int .i64 a2] w fun e w' => e = .returned (.bool r) ∧ Below w.heap.size w w' := by
  have hu38 := Try.underlying38
  have HR0 := Z0.mk hr0
  have HC0 := Z0.mk hc0
  clear hr0 hc0
  have HB := Z0.mk (Below.refl w.heap.size w)
  have H : ((culletlaw16_awake.f k).bind fun t482 => (if t482 = true then (culletlaw16_all.l0 k a1 a2 l0 (l0.length : Int) 0) else (some false))) = some r := h
  clear h
  replace H := Option.bind_eq_some_iff.mp H
  obtain ⟨t482, A40, H⟩ := H
  try dsimp only at H
  have A4 := Z0.mk A40
  clear A40
  by_cases c5 : t482 = true
  · subst c5
    have H1 : (culletlaw16_all.l0 k a1 a2 l0 (l0.length : Int) 0) = some r := by rw [if_pos rfl] at H; exact H
    clear H
    have H := H1
    clear H1
    have H' := Z0.mk H
    clear H
    go_enter Try.func27, Try.ntmps27
    go_wp2_with (first | ((with_reducible refine gate_callee (f := 13) rfl ?_); refine goesL_ (some 10) rfl rfl Try.func13 (by kernel_rfl) rfl #[] rfl (by (try simp only [List.map_toArray, List.map_cons, List.map_nil]); first | done | rfl | (simp only [List.length_drop, List.length_take]; rfl)) ?_; (with_reducible refine (culletlaw16_awake.calls k  true _ A4.out).mono ?_); rintro e w6 ⟨rfl, hb⟩; refine ⟨_, rfl, ?_⟩; have n0_ := Z0.mk (bwT (by repeat (first | (with_reducible first | exact HB.out | apply bwA | apply bwN | apply bw1) | exact HB.out)) hb); clear HB; have HB := n0_; clear n0_; (try clear hb); (try clear hb2); (try clear hk); (try clear hi)))
    go_loopg [14] k (fun kq v14 w' => ∃ (x14_1 : Int), v14 = .int .i64 x14_1 ∧ Z0 (culletlaw16_all.l0 kq a1 a2 l0 (l0.length : Int) x14_1 = some r) ∧ Z0 (kq ≤ k) ∧ Z0 (Below w.heap.size w w'))
    case atStart => exact ⟨(0), (by first | rfl | (simp; done) | (simp [*]; done)), H', ⟨Nat.le_refl _⟩, ⟨by repeat (first | (with_reducible first | exact HB.out | apply bwA | apply bwN | apply bw1) | exact HB.out)⟩⟩
    case round =>
      clear H'
      try clear c1
      try clear c2
      try clear p2
      try clear c5
      obtain ⟨x14_1, rfl, HA, HK1, HB⟩ := hrel
      cases gk with
      | zero => exact absurd HA.out (by simp [culletlaw16_all.l0])
      | succ k1 =>
        have H := HA.out
        clear HA
        simp only [culletlaw16_all.l0] at H
        by_cases c7 : x14_1 < (l0.length : Int)
        · rw [if_pos c7] at H
          have c7b0 : decide (x14_1 < (l0.length : Int)) = true := decide_eq_true c7
          clear c7
          by_cases c8 : 0 ≤ x14_1
          · rw [if_pos c8] at H
            have c8b0 : decide (0 ≤ x14_1) = true := decide_eq_true c8
            clear c8
            by_cases c9 : x14_1 < (l0.length : Int)
            · rw [if_pos c9] at H
              have c9b0 : decide (x14_1 < (l0.length : Int)) = true := decide_eq_true c9
              clear c9
              have HC10 := Z0.mk H
              clear H
              have p483 : 0 ≤ (x14_1 : Int) := of_decide_eq_true (by first | (with_reducible assumption) | assumption)
              have q483 : x14_1 < (l0.length : Int) := of_decide_eq_true (by first | (with_reducible assumption) | assumption)
              obtain ⟨ad483, A483_5, c483_5, A483_6, c483_6, A483_7, c483_7, e483, hx483_0, hx483_1, hx483_2, hx483_3, hx483_4, hx483_5, hx483_6, hx483_7, hl483_5, hi483_5, hl483_6, hi483_6, hl483_7, hi483_7⟩ := at_T38 HR0.out x14_1 p483 q483
              cases e483
              replace hx483_0 := (HB.out.cell (World.block_lt_of_cell? w _ hx483_0)).trans hx483_0
              replace hx483_1 := (HB.out.cell (World.block_lt_of_cell? w _ hx483_1)).trans hx483_1
              replace hx483_2 := (HB.out.cell (World.block_lt_of_cell? w _ hx483_2)).trans hx483_2
              replace hx483_3 := (HB.out.cell (World.block_lt_of_cell? w _ hx483_3)).trans hx483_3
              replace hx483_4 := (HB.out.cell (World.block_lt_of_cell? w _ hx483_4)).trans hx483_4
              replace hx483_5 := (HB.out.cell (World.block_lt_of_cell? w _ hx483_5)).trans hx483_5
              replace hx483_6 := (HB.out.cell (World.block_lt_of_cell? w _ hx483_6)).trans hx483_6
              replace hx483_7 := (HB.out.cell (World.block_lt_of_cell? w _ hx483_7)).trans hx483_7
              have HR483_5 := Z0.mk hi483_5
              have HC483_5 := Z0.mk hl483_5
              clear hi483_5 hl483_5
              have HR483_6 := Z0.mk hi483_6
              have HC483_6 := Z0.mk hl483_6
              clear hi483_6 hl483_6
              have HR483_7 := Z0.mk hi483_7
              have HC483_7 := Z0.mk hl483_7
              clear hi483_7 hl483_7
              replace p483 := eq_true p483
              replace q483 := eq_true q483
              go_upto_region 6 with (first | ((with_reducible refine gate_dst (N := 8) rfl ?_); refine box_event ?hg (N := 8) ?hd (cs := #[.int .i64 0, .int .i64 0, .int .i64 0, .int .i64 0, .int .i64 0, .slice none 0 0, .slice none 0 0, .slice none 0 0]) (t := 38) ?hr ?_; (case hd => rfl); (case hg => rfl); (case hr => first | (go_simp; done) | (go_simp; rfl)); intro gb484 hg w11 hbox hb; have n0_ := Z0.mk (bwT (by repeat (first | (with_reducible first | exact HB.out | apply bwA | apply bwN | apply bw1) | exact HB.out)) hb); have n1_ := Z0.mk (hbox); have n2_ := Z0.mk ((by rw [hg]; exact (bwZ (by repeat (first | (with_reducible first | exact HB.out | apply bwA | apply bwN | apply bw1) | exact HB.out))) : w.heap.size ≤ gb484)); have n3_ := Z0.mk ((by rw [hg]; exact (bwZ (by repeat (first | (with_reducible first | exact HB.out | apply bwA | apply bwN | apply bw1) | exact HB.out))) : w.heap.size ≤ gb484)); clear HB; have HB := n0_; have BK484 := n1_; have GW484 := n2_; have GE484 := n3_; clear n0_ n1_ n2_ n3_; clear hb hbox hg; have hcz12_0 : w11.cell? ⟨gb484, 0, none⟩ = some (.int .i64 0) := (bkC BK484.out 0).trans rfl; have hcz12_1 : w11.cell? ⟨gb484, 1, none⟩ = some (.int .i64 0) := (bkC BK484.out 1).trans rfl; have hcz12_2 : w11.cell? ⟨gb484, 2, none⟩ = some (.int .i64 0) := (bkC BK484.out 2).trans rfl; have hcz12_3 : w11.cell? ⟨gb484, 3, none⟩ = some (.int .i64 0) := (bkC BK484.out 3).trans rfl; have hcz12_4 : w11.cell? ⟨gb484, 4, none⟩ = some (.int .i64 0) := (bkC BK484.out 4).trans rfl; have hcz12_5 : w11.cell? ⟨gb484, 5, none⟩ = some (.slice none 0 0) := (bkC BK484.out 5).trans rfl; have hcz12_6 : w11.cell? ⟨gb484, 6, none⟩ = some (.slice none 0 0) := (bkC BK484.out 6).trans rfl; have hcz12_7 : w11.cell? ⟨gb484, 7, none⟩ = some (.slice none 0 0) := (bkC BK484.out 7).trans rfl; have hfz12_0 := bkF BK484.out 0; have hfz12_1 := bkF BK484.out 1; have hfz12_2 := bkF BK484.out 2; have hfz12_3 := bkF BK484.out 3; have hfz12_4 := bkF BK484.out 4; have hfz12_5 := bkF BK484.out 5; have hfz12_6 := bkF BK484.out 6; have hfz12_7 := bkF BK484.out 7))
              (try simp only [Act.put, List.setIfInBounds_toArray, List.set_cons_zero, List.set_cons_succ])
              go_cut [27] (fun v27 wc => ∃ (kq : Nat) (x27_9 : Bool), v27 = .bool x27_9 ∧ Z0 (culletlaw16_all.j1 kq a1 a2 l0 (l0.length : Int) x14_1 x27_9 ((rd_T38 l0 x14_1).f0) ((rd_T38 l0 x14_1).f1) ((rd_T38 l0 x14_1).f2) ((rd_T38 l0 x14_1).f3) ((rd_T38 l0 x14_1).f4) ((rd_T38 l0 x14_1).f5) ((rd_T38 l0 x14_1).f6) ((rd_T38 l0 x14_1).f7) = some r) ∧ Z0 (kq ≤ k1) ∧ Z0 (wc.heap[gb484]? = some (.cells #[.int .i64 ((rd_T38 l0 x14_1).f0), .int .i64 ((rd_T38 l0 x14_1).f1), .int .i64 ((rd_T38 l0 x14_1).f2), .int .i64 ((rd_T38 l0 x14_1).f3), .int .i64 ((rd_T38 l0 x14_1).f4), (.slice A483_5 ((rd_T38 l0 x14_1).f5).length c483_5), (.slice A483_6 ((rd_T38 l0 x14_1).f6).length c483_6), (.slice A483_7 ((rd_T38 l0 x14_1).f7).length c483_7)] 38 (0, 0))) ∧ Z0 (Below w.heap.size w wc))
              case first =>
                have H := HC10.out
                clear HC10
                by_cases c13 : ((rd_T38 l0 x14_1).f0) < a1
                · rw [if_pos c13] at H
                  have c13b0 : decide (((rd_T38 l0 x14_1).f0) < a1) = true := decide_eq_true c13
                  clear c13
                  (first | rw [c13b0] | (simp only [i64_w, i32_w]; rw [c13b0]) | skip)
                  have H' := Z0.mk H
                  clear H
                  have hcz14_0 : w11.cell? ⟨gb484, 0, none⟩ = some (.int .i64 0) := (bkC BK484.out 0).trans rfl
                  have hcz14_1 : w11.cell? ⟨gb484, 1, none⟩ = some (.int .i64 0) := (bkC BK484.out 1).trans rfl
                  have hcz14_2 : w11.cell? ⟨gb484, 2, none⟩ = some (.int .i64 0) := (bkC BK484.out 2).trans rfl
                  have hcz14_3 : w11.cell? ⟨gb484, 3, none⟩ = some (.int .i64 0) := (bkC BK484.out 3).trans rfl
                  have hcz14_4 : w11.cell? ⟨gb484, 4, none⟩ = some (.int .i64 0) := (bkC BK484.out 4).trans rfl
                  have hcz14_5 : w11.cell? ⟨gb484, 5, none⟩ = some (.slice none 0 0) := (bkC BK484.out 5).trans rfl
                  have hcz14_6 : w11.cell? ⟨gb484, 6, none⟩ = some (.slice none 0 0) := (bkC BK484.out 6).trans rfl
                  have hcz14_7 : w11.cell? ⟨gb484, 7, none⟩ = some (.slice none 0 0) := (bkC BK484.out 7).trans rfl
                  have hfz14_0 := bkF BK484.out 0
                  have hfz14_1 := bkF BK484.out 1
                  have hfz14_2 := bkF BK484.out 2
                  have hfz14_3 := bkF BK484.out 3
                  have hfz14_4 := bkF BK484.out 4
                  have hfz14_5 := bkF BK484.out 5
                  have hfz14_6 := bkF BK484.out 6
                  have hfz14_7 := bkF BK484.out 7
                  go_wp2
                  go_meet
                  case rel => exact ⟨_, (true), (by first | rfl | (simp; done) | (simp [*]; done)), H', ⟨by have := HK1.out; first | omega | exact Nat.le_refl _⟩, ⟨by (with_reducible repeat (first | refine bkN ?_ _ | refine bkD ?_ | refine bkA ?_ _)); refine blk_put (cs := #[.int .i64 ((rd_T38 l0 x14_1).f0), .int .i64 ((rd_T38 l0 x14_1).f1), .int .i64 ((rd_T38 l0 x14_1).f2), .int .i64 ((rd_T38 l0 x14_1).f3), .int .i64 ((rd_T38 l0 x14_1).f4), .slice A483_5 ((rd_T38 l0 x14_1).f5).length c483_5, .slice A483_6 ((rd_T38 l0 x14_1).f6).length c483_6, .slice none 0 0]) ?_ 7 _ rfl; (with_reducible repeat (first | refine bkN ?_ _ | refine bkD ?_ | refine bkA ?_ _)); refine blk_put (cs := #[.int .i64 ((rd_T38 l0 x14_1).f0), .int .i64 ((rd_T38 l0 x14_1).f1), .int .i64 ((rd_T38 l0 x14_1).f2), .int .i64 ((rd_T38 l0 x14_1).f3), .int .i64 ((rd_T38 l0 x14_1).f4), .slice A483_5 ((rd_T38 l0 x14_1).f5).length c483_5, .slice none 0 0, .slice none 0 0]) ?_ 6 _ rfl; (with_reducible repeat (first | refine bkN ?_ _ | refine bkD ?_ | refine bkA ?_ _)); refine blk_put (cs := #[.int .i64 ((rd_T38 l0 x14_1).f0), .int .i64 ((rd_T38 l0 x14_1).f1), .int .i64 ((rd_T38 l0 x14_1).f2), .int .i64 ((rd_T38 l0 x14_1).f3), .int .i64 ((rd_T38 l0 x14_1).f4), .slice none 0 0, .slice none 0 0, .slice none 0 0]) ?_ 5 _ rfl; (with_reducible repeat (first | refine bkN ?_ _ | refine bkD ?_ | refine bkA ?_ _)); refine blk_put (cs := #[.int .i64 ((rd_T38 l0 x14_1).f0), .int .i64 ((rd_T38 l0 x14_1).f1), .int .i64 ((rd_T38 l0 x14_1).f2), .int .i64 ((rd_T38 l0 x14_1).f3), .int .i64 0, .slice none 0 0, .slice none 0 0, .slice none 0 0]) ?_ 4 _ rfl; (with_reducible repeat (first | refine bkN ?_ _ | refine bkD ?_ | refine bkA ?_ _)); refine blk_put (cs := #[.int .i64 ((rd_T38 l0 x14_1).f0), .int .i64 ((rd_T38 l0 x14_1).f1), .int .i64 ((rd_T38 l0 x14_1).f2), .int .i64 0, .int .i64 0, .slice none 0 0, .slice none 0 0, .slice none 0 0]) ?_ 3 _ rfl; (with_reducible repeat (first | refine bkN ?_ _ | refine bkD ?_ | refine bkA ?_ _)); refine blk_put (cs := #[.int .i64 ((rd_T38 l0 x14_1).f0), .int .i64 ((rd_T38 l0 x14_1).f1), .int .i64 0, .int .i64 0, .int .i64 0, .slice none 0 0, .slice none 0 0, .slice none 0 0]) ?_ 2 _ rfl; (with_reducible repeat (first | refine bkN ?_ _ | refine bkD ?_ | refine bkA ?_ _)); refine blk_put (cs := #[.int .i64 ((rd_T38 l0 x14_1).f0), .int .i64 0, .int .i64 0, .int .i64 0, .int .i64 0, .slice none 0 0, .slice none 0 0, .slice none 0 0]) ?_ 1 _ rfl; (with_reducible repeat (first | refine bkN ?_ _ | refine bkD ?_ | refine bkA ?_ _)); refine blk_put (cs := #[.int .i64 0, .int .i64 0, .int .i64 0, .int .i64 0, .int .i64 0, .slice none 0 0, .slice none 0 0, .slice none 0 0]) ?_ 0 _ rfl; (with_reducible repeat (first | refine bkN ?_ _ | refine bkD ?_ | refine bkA ?_ _)); exact BK484.out⟩, ⟨by repeat (first | (with_reducible first | exact HB.out | apply bwA | apply bwN | apply bw1 | refine bwS ?_ GE484.out) | exact HB.out)⟩⟩
                · rw [if_neg c13] at H
                  have c13b0 : decide (((rd_T38 l0 x14_1).f0) < a1) = false := decide_eq_false c13
                  clear c13
                  (first | rw [c13b0] | (simp only [i64_w, i32_w]; rw [c13b0]) | skip)
                  have H' := Z0.mk H
                  clear H
                  have hcz15_0 : w11.cell? ⟨gb484, 0, none⟩ = some (.int .i64 0) := (bkC BK484.out 0).trans rfl
                  have hcz15_1 : w11.cell? ⟨gb484, 1, none⟩ = some (.int .i64 0) := (bkC BK484.out 1).trans rfl
                  have hcz15_2 : w11.cell? ⟨gb484, 2, none⟩ = some (.int .i64 0) := (bkC BK484.out 2).trans rfl
                  have hcz15_3 : w11.cell? ⟨gb484, 3, none⟩ = some (.int .i64 0) := (bkC BK484.out 3).trans rfl
                  have hcz15_4 : w11.cell? ⟨gb484, 4, none⟩ = some (.int .i64 0) := (bkC BK484.out 4).trans rfl
                  have hcz15_5 : w11.cell? ⟨gb484, 5, none⟩ = some (.slice none 0 0) := (bkC BK484.out 5).trans rfl
                  have hcz15_6 : w11.cell? ⟨gb484, 6, none⟩ = some (.slice none 0 0) := (bkC BK484.out 6).trans rfl
                  have hcz15_7 : w11.cell? ⟨gb484, 7, none⟩ = some (.slice none 0 0) := (bkC BK484.out 7).trans rfl
                  have hfz15_0 := bkF BK484.out 0
                  have hfz15_1 := bkF BK484.out 1
                  have hfz15_2 := bkF BK484.out 2
                  have hfz15_3 := bkF BK484.out 3
                  have hfz15_4 := bkF BK484.out 4
                  have hfz15_5 := bkF BK484.out 5
                  have hfz15_6 := bkF BK484.out 6
                  have hfz15_7 := bkF BK484.out 7
                  go_wp2
                  go_meet
                  case rel => exact ⟨_, (decide (((rd_T38 l0 x14_1).f0) > a2)), (by first | rfl | (simp; done) | (simp [*]; done)), H', ⟨by have := HK1.out; first | omega | exact Nat.le_refl _⟩, ⟨by (with_reducible repeat (first | refine bkN ?_ _ | refine bkD ?_ | refine bkA ?_ _)); refine blk_put (cs := #[.int .i64 ((rd_T38 l0 x14_1).f0), .int .i64 ((rd_T38 l0 x14_1).f1), .int .i64 ((rd_T38 l0 x14_1).f2), .int .i64 ((rd_T38 l0 x14_1).f3), .int .i64 ((rd_T38 l0 x14_1).f4), .slice A483_5 ((rd_T38 l0 x14_1).f5).length c483_5, .slice A483_6 ((rd_T38 l0 x14_1).f6).length c483_6, .slice none 0 0]) ?_ 7 _ rfl; (with_reducible repeat (first | refine bkN ?_ _ | refine bkD ?_ | refine bkA ?_ _)); refine blk_put (cs := #[.int .i64 ((rd_T38 l0 x14_1).f0), .int .i64 ((rd_T38 l0 x14_1).f1), .int .i64 ((rd_T38 l0 x14_1).f2), .int .i64 ((rd_T38 l0 x14_1).f3), .int .i64 ((rd_T38 l0 x14_1).f4), .slice A483_5 ((rd_T38 l0 x14_1).f5).length c483_5, .slice none 0 0, .slice none 0 0]) ?_ 6 _ rfl; (with_reducible repeat (first | refine bkN ?_ _ | refine bkD ?_ | refine bkA ?_ _)); refine blk_put (cs := #[.int .i64 ((rd_T38 l0 x14_1).f0), .int .i64 ((rd_T38 l0 x14_1).f1), .int .i64 ((rd_T38 l0 x14_1).f2), .int .i64 ((rd_T38 l0 x14_1).f3), .int .i64 ((rd_T38 l0 x14_1).f4), .slice none 0 0, .slice none 0 0, .slice none 0 0]) ?_ 5 _ rfl; (with_reducible repeat (first | refine bkN ?_ _ | refine bkD ?_ | refine bkA ?_ _)); refine blk_put (cs := #[.int .i64 ((rd_T38 l0 x14_1).f0), .int .i64 ((rd_T38 l0 x14_1).f1), .int .i64 ((rd_T38 l0 x14_1).f2), .int .i64 ((rd_T38 l0 x14_1).f3), .int .i64 0, .slice none 0 0, .slice none 0 0, .slice none 0 0]) ?_ 4 _ rfl; (with_reducible repeat (first | refine bkN ?_ _ | refine bkD ?_ | refine bkA ?_ _)); refine blk_put (cs := #[.int .i64 ((rd_T38 l0 x14_1).f0), .int .i64 ((rd_T38 l0 x14_1).f1), .int .i64 ((rd_T38 l0 x14_1).f2), .int .i64 0, .int .i64 0, .slice none 0 0, .slice none 0 0, .slice none 0 0]) ?_ 3 _ rfl; (with_reducible repeat (first | refine bkN ?_ _ | refine bkD ?_ | refine bkA ?_ _)); refine blk_put (cs := #[.int .i64 ((rd_T38 l0 x14_1).f0), .int .i64 ((rd_T38 l0 x14_1).f1), .int .i64 0, .int .i64 0, .int .i64 0, .slice none 0 0, .slice none 0 0, .slice none 0 0]) ?_ 2 _ rfl; (with_reducible repeat (first | refine bkN ?_ _ | refine bkD ?_ | refine bkA ?_ _)); refine blk_put (cs := #[.int .i64 ((rd_T38 l0 x14_1).f0), .int .i64 0, .int .i64 0, .int .i64 0, .int .i64 0, .slice none 0 0, .slice none 0 0, .slice none 0 0]) ?_ 1 _ rfl; (with_reducible repeat (first | refine bkN ?_ _ | refine bkD ?_ | refine bkA ?_ _)); refine blk_put (cs := #[.int .i64 0, .int .i64 0, .int .i64 0, .int .i64 0, .int .i64 0, .slice none 0 0, .slice none 0 0, .slice none 0 0]) ?_ 0 _ rfl; (with_reducible repeat (first | refine bkN ?_ _ | refine bkD ?_ | refine bkA ?_ _)); exact BK484.out⟩, ⟨by repeat (first | (with_reducible first | exact HB.out | apply bwA | apply bwN | apply bw1 | refine bwS ?_ GE484.out) | exact HB.out)⟩⟩
              case rest =>
                clear HC10
                try clear c1
                try clear c2
                try clear p2
                try clear c4
                try clear p4
                try clear q4
                try clear hx4
                try clear c5
                try clear c7
                try clear c7b0
                try clear c8
                try clear c8b0
                try clear c9
                try clear c9b0
                try clear c13
                try clear c13b0
                try clear hcz12_0
                try clear hcz12_1
                try clear hcz12_2
                try clear hcz12_3
                try clear hcz12_4
                try clear hcz12_5
                try clear hcz12_6
                try clear hcz12_7
                try clear hcz14_0
                try clear hcz14_1
                try clear hcz14_2
                try clear hcz14_3
                try clear hcz14_4
                try clear hcz14_5
                try clear hcz14_6
                try clear hcz14_7
                try clear hcz15_0
                try clear hcz15_1
                try clear hcz15_2
                try clear hcz15_3
                try clear hcz15_4
                try clear hcz15_5
                try clear hcz15_6
                try clear hcz15_7
                try clear hfz12_0
                try clear hfz12_1
                try clear hfz12_2
                try clear hfz12_3
                try clear hfz12_4
                try clear hfz12_5
                try clear hfz12_6
                try clear hfz12_7
                try clear hfz14_0
                try clear hfz14_1
                try clear hfz14_2
                try clear hfz14_3
                try clear hfz14_4
                try clear hfz14_5
                try clear hfz14_6
                try clear hfz14_7
                try clear hfz15_0
                try clear hfz15_1
                try clear hfz15_2
                try clear hfz15_3
                try clear hfz15_4
                try clear hfz15_5
                try clear hfz15_6
                try clear hfz15_7
                try clear hx483_0
                try clear hx483_1
                try clear hx483_2
                try clear hx483_3
                try clear hx483_4
                try clear hx483_5
                try clear hx483_6
                try clear hx483_7
                try clear p2
                try clear p483
                try clear q483
                obtain ⟨kq, x27_9, rfl, HA, HJ9, BK484, HB⟩ := hcut
                cases kq with
                | zero => exact absurd HA.out (by simp [culletlaw16_all.j1])
                | succ kj9 =>
                  have H := HA.out
                  clear HA
                  simp only [culletlaw16_all.j1] at H
                  by_cases c16 : x27_9 = true
                  · subst c16
                    have H1 : (culletlaw16_all.l0 kj9 a1 a2 l0 (l0.length : Int) (wrap64 (x14_1 + 1))) = some r := by rw [if_pos rfl] at H; exact H
                    clear H
                    have H := H1
                    clear H1
                    have H' := Z0.mk H
                    clear H
                    go_wp2
                    go_roundg kj9
                    case measure => have := HK1.out; have := HJ9.out; omega
                    case rel => exact ⟨(wrap64 (x14_1 + 1)), (by first | rfl | (simp; done) | (simp [*]; done)), H', ⟨by have := HK1.out; have := HJ9.out; omega⟩, ⟨by repeat (first | (with_reducible first | exact HB.out | apply bwA | apply bwN | apply bw1 | refine bwS ?_ GE484.out) | exact HB.out)⟩⟩
                  · replace c16 := Bool.eq_false_iff.mpr c16
                    subst c16
                    have H1 : (if ((rd_T38 l0 x14_1).f0) ≤ 4 then ((culletlaw16_numbers.f kj9 ((rd_T38 l0 x14_1).f0) ((rd_T38 l0 x14_1).f1) ((rd_T38 l0 x14_1).f2) ((rd_T38 l0 x14_1).f3) ((rd_T38 l0 x14_1).f4) ((rd_T38 l0 x14_1).f5) ((rd_T38 l0 x14_1).f6) ((rd_T38 l0 x14_1).f7)).bind fun t485 => (if t485 = true then (culletlaw16_all.l0 kj9 a1 a2 l0 (l0.length : Int) (wrap64 (x14_1 + 1))) else (some false))) else (if ((rd_T38 l0 x14_1).f0) ≤ 7 then ((culletlaw16_tables.f kj9 ((rd_T38 l0 x14_1).f0) ((rd_T38 l0 x14_1).f1) ((rd_T38 l0 x14_1).f2) ((rd_T38 l0 x14_1).f3) ((rd_T38 l0 x14_1).f4) ((rd_T38 l0 x14_1).f5) ((rd_T38 l0 x14_1).f6) ((rd_T38 l0 x14_1).f7)).bind fun t486 => (if t486 = true then (culletlaw16_all.l0 kj9 a1 a2 l0 (l0.length : Int) (wrap64 (x14_1 + 1))) else (some false))) else ((culletlaw16_moves.f kj9 ((rd_T38 l0 x14_1).f0) ((rd_T38 l0 x14_1).f1) ((rd_T38 l0 x14_1).f2) ((rd_T38 l0 x14_1).f3) ((rd_T38 l0 x14_1).f4) ((rd_T38 l0 x14_1).f5) ((rd_T38 l0 x14_1).f6) ((rd_T38 l0 x14_1).f7)).bind fun t487 => (if t487 = true then (culletlaw16_all.l0 kj9 a1 a2 l0 (l0.length : Int) (wrap64 (x14_1 + 1))) else (some false))))) = some r := by rw [if_neg (show ¬ (false = true) by decide)] at H; exact H
                    clear H
                    have H := H1
                    clear H1
                    by_cases c17 : ((rd_T38 l0 x14_1).f0) ≤ 4
                    · rw [if_pos c17] at H
                      have c17b0 : decide (((rd_T38 l0 x14_1).f0) ≤ 4) = true := decide_eq_true c17
                      clear c17
                      replace H := Option.bind_eq_some_iff.mp H
                      obtain ⟨t485, A180, H⟩ := H
                      try dsimp only at H
                      have A18 := Z0.mk A180
                      clear A180
                      by_cases c19 : t485 = true
                      · subst c19
                        have H1 : (culletlaw16_all.l0 kj9 a1 a2 l0 (l0.length : Int) (wrap64 (x14_1 + 1))) = some r := by rw [if_pos rfl] at H; exact H
                        clear H
                        have H := H1
                        clear H1
                        have H' := Z0.mk H
                        clear H
                        have hcz20_0 : wc.cell? ⟨gb484, 0, none⟩ = some (.int .i64 ((rd_T38 l0 x14_1).f0)) := (bkC BK484.out 0).trans rfl
                        have hcz20_1 : wc.cell? ⟨gb484, 1, none⟩ = some (.int .i64 ((rd_T38 l0 x14_1).f1)) := (bkC BK484.out 1).trans rfl
                        have hcz20_2 : wc.cell? ⟨gb484, 2, none⟩ = some (.int .i64 ((rd_T38 l0 x14_1).f2)) := (bkC BK484.out 2).trans rfl
                        have hcz20_3 : wc.cell? ⟨gb484, 3, none⟩ = some (.int .i64 ((rd_T38 l0 x14_1).f3)) := (bkC BK484.out 3).trans rfl
                        have hcz20_4 : wc.cell? ⟨gb484, 4, none⟩ = some (.int .i64 ((rd_T38 l0 x14_1).f4)) := (bkC BK484.out 4).trans rfl
                        have hcz20_5 : wc.cell? ⟨gb484, 5, none⟩ = some (.slice A483_5 ((rd_T38 l0 x14_1).f5).length c483_5) := (bkC BK484.out 5).trans rfl
                        have hcz20_6 : wc.cell? ⟨gb484, 6, none⟩ = some (.slice A483_6 ((rd_T38 l0 x14_1).f6).length c483_6) := (bkC BK484.out 6).trans rfl
                        have hcz20_7 : wc.cell? ⟨gb484, 7, none⟩ = some (.slice A483_7 ((rd_T38 l0 x14_1).f7).length c483_7) := (bkC BK484.out 7).trans rfl
                        have hfz20_0 := bkF BK484.out 0
                        have hfz20_1 := bkF BK484.out 1
                        have hfz20_2 := bkF BK484.out 2
                        have hfz20_3 := bkF BK484.out 3
                        have hfz20_4 := bkF BK484.out 4
                        have hfz20_5 := bkF BK484.out 5
                        have hfz20_6 := bkF BK484.out 6
                        have hfz20_7 := bkF BK484.out 7
                        go_wp2_with (first | ((with_reducible refine gate_callee (f := 36) rfl ?_); refine goesL_ (some 35) rfl rfl Try.func36 (by kernel_rfl) rfl #[.agg #[.int .i64 ((rd_T38 l0 x14_1).f0), .int .i64 ((rd_T38 l0 x14_1).f1), .int .i64 ((rd_T38 l0 x14_1).f2), .int .i64 ((rd_T38 l0 x14_1).f3), .int .i64 ((rd_T38 l0 x14_1).f4), .slice A483_5 ((rd_T38 l0 x14_1).f5).length c483_5, .slice A483_6 ((rd_T38 l0 x14_1).f6).length c483_6, .slice A483_7 ((rd_T38 l0 x14_1).f7).length c483_7]] rfl (by (try simp only [List.map_toArray, List.map_cons, List.map_nil]); first | done | rfl | (simp only [List.length_drop, List.length_take]; rfl)) ?_; (with_reducible refine (culletlaw16_numbers.calls kj9 ((rd_T38 l0 x14_1).f0) ((rd_T38 l0 x14_1).f1) ((rd_T38 l0 x14_1).f2) ((rd_T38 l0 x14_1).f3) ((rd_T38 l0 x14_1).f4) _ _ ((rd_T38 l0 x14_1).f5) _ _ ((rd_T38 l0 x14_1).f6) _ _ ((rd_T38 l0 x14_1).f7) true _ ?side1 ?side2 ?side3 ?side4 ?side5 ?side6 A18.out).mono ?_); (case side1 => repeat (first | exact (Kd.C_below HR483_5.out HB.out) | (with_reducible refine Kd.C_alloc ?_ _) | (with_reducible refine Kd.C_drewN ?_ _) | (with_reducible refine Kd.C_drew ?_))); (case side2 => exact HC483_5.out); (case side3 => repeat (first | exact (Kd.C_below HR483_6.out HB.out) | (with_reducible refine Kd.C_alloc ?_ _) | (with_reducible refine Kd.C_drewN ?_ _) | (with_reducible refine Kd.C_drew ?_))); (case side4 => exact HC483_6.out); (case side5 => repeat (first | exact (Kd.C_below HR483_7.out HB.out) | (with_reducible refine Kd.C_alloc ?_ _) | (with_reducible refine Kd.C_drewN ?_ _) | (with_reducible refine Kd.C_drew ?_))); (case side6 => exact HC483_7.out); rintro e w21 ⟨rfl, hb⟩; refine ⟨_, rfl, ?_⟩; have n0_ := Z0.mk (bkB (g := gb484) (o := .cells #[.int .i64 ((rd_T38 l0 x14_1).f0), .int .i64 ((rd_T38 l0 x14_1).f1), .int .i64 ((rd_T38 l0 x14_1).f2), .int .i64 ((rd_T38 l0 x14_1).f3), .int .i64 ((rd_T38 l0 x14_1).f4), .slice A483_5 ((rd_T38 l0 x14_1).f5).length c483_5, .slice A483_6 ((rd_T38 l0 x14_1).f6).length c483_6, .slice A483_7 ((rd_T38 l0 x14_1).f7).length c483_7] 38 (0, 0)) (by (with_reducible repeat (first | refine bkN ?_ _ | refine bkD ?_ | refine bkA ?_ _)); exact BK484.out) hb); have n1_ := Z0.mk (bwT (by repeat (first | (with_reducible first | exact HB.out | apply bwA | apply bwN | apply bw1 | refine bwS ?_ GE484.out) | exact HB.out)) hb); clear BK484; clear HB; have BK484 := n0_; have HB := n1_; clear n0_ n1_; (try clear hb); (try clear hb2); (try clear hk); (try clear hi)))
                        go_roundg kj9
                        case measure => have := HK1.out; have := HJ9.out; omega
                        case rel => exact ⟨(wrap64 (x14_1 + 1)), (by first | rfl | (simp; done) | (simp [*]; done)), H', ⟨by have := HK1.out; have := HJ9.out; omega⟩, ⟨by repeat (first | (with_reducible first | exact HB.out | apply bwA | apply bwN | apply bw1 | refine bwS ?_ GE484.out) | exact HB.out)⟩⟩
                      · replace c19 := Bool.eq_false_iff.mpr c19
                        subst c19
                        have H1 : (some false) = some r := by rw [if_neg (show ¬ (false = true) by decide)] at H; exact H
                        clear H
                        have H := H1
                        clear H1
                        obtain rfl := Option.some.inj H
                        have hcz22_0 : wc.cell? ⟨gb484, 0, none⟩ = some (.int .i64 ((rd_T38 l0 x14_1).f0)) := (bkC BK484.out 0).trans rfl
                        have hcz22_1 : wc.cell? ⟨gb484, 1, none⟩ = some (.int .i64 ((rd_T38 l0 x14_1).f1)) := (bkC BK484.out 1).trans rfl
                        have hcz22_2 : wc.cell? ⟨gb484, 2, none⟩ = some (.int .i64 ((rd_T38 l0 x14_1).f2)) := (bkC BK484.out 2).trans rfl
                        have hcz22_3 : wc.cell? ⟨gb484, 3, none⟩ = some (.int .i64 ((rd_T38 l0 x14_1).f3)) := (bkC BK484.out 3).trans rfl
                        have hcz22_4 : wc.cell? ⟨gb484, 4, none⟩ = some (.int .i64 ((rd_T38 l0 x14_1).f4)) := (bkC BK484.out 4).trans rfl
                        have hcz22_5 : wc.cell? ⟨gb484, 5, none⟩ = some (.slice A483_5 ((rd_T38 l0 x14_1).f5).length c483_5) := (bkC BK484.out 5).trans rfl
                        have hcz22_6 : wc.cell? ⟨gb484, 6, none⟩ = some (.slice A483_6 ((rd_T38 l0 x14_1).f6).length c483_6) := (bkC BK484.out 6).trans rfl
                        have hcz22_7 : wc.cell? ⟨gb484, 7, none⟩ = some (.slice A483_7 ((rd_T38 l0 x14_1).f7).length c483_7) := (bkC BK484.out 7).trans rfl
                        have hfz22_0 := bkF BK484.out 0
                        have hfz22_1 := bkF BK484.out 1
                        have hfz22_2 := bkF BK484.out 2
                        have hfz22_3 := bkF BK484.out 3
                        have hfz22_4 := bkF BK484.out 4
                        have hfz22_5 := bkF BK484.out 5
                        have hfz22_6 := bkF BK484.out 6
                        have hfz22_7 := bkF BK484.out 7
                        go_wp2_with (first | ((with_reducible refine gate_callee (f := 36) rfl ?_); refine goesL_ (some 35) rfl rfl Try.func36 (by kernel_rfl) rfl #[.agg #[.int .i64 ((rd_T38 l0 x14_1).f0), .int .i64 ((rd_T38 l0 x14_1).f1), .int .i64 ((rd_T38 l0 x14_1).f2), .int .i64 ((rd_T38 l0 x14_1).f3), .int .i64 ((rd_T38 l0 x14_1).f4), .slice A483_5 ((rd_T38 l0 x14_1).f5).length c483_5, .slice A483_6 ((rd_T38 l0 x14_1).f6).length c483_6, .slice A483_7 ((rd_T38 l0 x14_1).f7).length c483_7]] rfl (by (try simp only [List.map_toArray, List.map_cons, List.map_nil]); first | done | rfl | (simp only [List.length_drop, List.length_take]; rfl)) ?_; (with_reducible refine (culletlaw16_numbers.calls kj9 ((rd_T38 l0 x14_1).f0) ((rd_T38 l0 x14_1).f1) ((rd_T38 l0 x14_1).f2) ((rd_T38 l0 x14_1).f3) ((rd_T38 l0 x14_1).f4) _ _ ((rd_T38 l0 x14_1).f5) _ _ ((rd_T38 l0 x14_1).f6) _ _ ((rd_T38 l0 x14_1).f7) false _ ?side1 ?side2 ?side3 ?side4 ?side5 ?side6 A18.out).mono ?_); (case side1 => repeat (first | exact (Kd.C_below HR483_5.out HB.out) | (with_reducible refine Kd.C_alloc ?_ _) | (with_reducible refine Kd.C_drewN ?_ _) | (with_reducible refine Kd.C_drew ?_))); (case side2 => exact HC483_5.out); (case side3 => repeat (first | exact (Kd.C_below HR483_6.out HB.out) | (with_reducible refine Kd.C_alloc ?_ _) | (with_reducible refine Kd.C_drewN ?_ _) | (with_reducible refine Kd.C_drew ?_))); (case side4 => exact HC483_6.out); (case side5 => repeat (first | exact (Kd.C_below HR483_7.out HB.out) | (with_reducible refine Kd.C_alloc ?_ _) | (with_reducible refine Kd.C_drewN ?_ _) | (with_reducible refine Kd.C_drew ?_))); (case side6 => exact HC483_7.out); rintro e w23 ⟨rfl, hb⟩; refine ⟨_, rfl, ?_⟩; have n0_ := Z0.mk (bkB (g := gb484) (o := .cells #[.int .i64 ((rd_T38 l0 x14_1).f0), .int .i64 ((rd_T38 l0 x14_1).f1), .int .i64 ((rd_T38 l0 x14_1).f2), .int .i64 ((rd_T38 l0 x14_1).f3), .int .i64 ((rd_T38 l0 x14_1).f4), .slice A483_5 ((rd_T38 l0 x14_1).f5).length c483_5, .slice A483_6 ((rd_T38 l0 x14_1).f6).length c483_6, .slice A483_7 ((rd_T38 l0 x14_1).f7).length c483_7] 38 (0, 0)) (by (with_reducible repeat (first | refine bkN ?_ _ | refine bkD ?_ | refine bkA ?_ _)); exact BK484.out) hb); have n1_ := Z0.mk (bwT (by repeat (first | (with_reducible first | exact HB.out | apply bwA | apply bwN | apply bw1 | refine bwS ?_ GE484.out) | exact HB.out)) hb); clear BK484; clear HB; have BK484 := n0_; have HB := n1_; clear n0_ n1_; (try clear hb); (try clear hb2); (try clear hk); (try clear hi)))
                        go_ret
                        exact ⟨by first | rfl | (simp [ewN, ewS] <;> rfl) | (simp [*, ewN, ewS] <;> rfl), by repeat (first | (with_reducible first | exact HB.out | apply bwA | apply bwN | apply bw1 | refine bwS ?_ GE484.out) | exact HB.out)⟩
                    · rw [if_neg c17] at H
                      have c17b0 : decide (((rd_T38 l0 x14_1).f0) ≤ 4) = false := decide_eq_false c17
                      clear c17
                      by_cases c24 : ((rd_T38 l0 x14_1).f0) ≤ 7
                      · rw [if_pos c24] at H
                        have c24b0 : decide (((rd_T38 l0 x14_1).f0) ≤ 7) = true := decide_eq_true c24
                        clear c24
                        replace H := Option.bind_eq_some_iff.mp H
                        obtain ⟨t486, A250, H⟩ := H
                        try dsimp only at H
                        have A25 := Z0.mk A250
                        clear A250
                        by_cases c26 : t486 = true
                        · subst c26
                          have H1 : (culletlaw16_all.l0 kj9 a1 a2 l0 (l0.length : Int) (wrap64 (x14_1 + 1))) = some r := by rw [if_pos rfl] at H; exact H
                          clear H
                          have H := H1
                          clear H1
                          have H' := Z0.mk H
                          clear H
                          have hcz27_0 : wc.cell? ⟨gb484, 0, none⟩ = some (.int .i64 ((rd_T38 l0 x14_1).f0)) := (bkC BK484.out 0).trans rfl
                          have hcz27_1 : wc.cell? ⟨gb484, 1, none⟩ = some (.int .i64 ((rd_T38 l0 x14_1).f1)) := (bkC BK484.out 1).trans rfl
                          have hcz27_2 : wc.cell? ⟨gb484, 2, none⟩ = some (.int .i64 ((rd_T38 l0 x14_1).f2)) := (bkC BK484.out 2).trans rfl
                          have hcz27_3 : wc.cell? ⟨gb484, 3, none⟩ = some (.int .i64 ((rd_T38 l0 x14_1).f3)) := (bkC BK484.out 3).trans rfl
                          have hcz27_4 : wc.cell? ⟨gb484, 4, none⟩ = some (.int .i64 ((rd_T38 l0 x14_1).f4)) := (bkC BK484.out 4).trans rfl
                          have hcz27_5 : wc.cell? ⟨gb484, 5, none⟩ = some (.slice A483_5 ((rd_T38 l0 x14_1).f5).length c483_5) := (bkC BK484.out 5).trans rfl
                          have hcz27_6 : wc.cell? ⟨gb484, 6, none⟩ = some (.slice A483_6 ((rd_T38 l0 x14_1).f6).length c483_6) := (bkC BK484.out 6).trans rfl
                          have hcz27_7 : wc.cell? ⟨gb484, 7, none⟩ = some (.slice A483_7 ((rd_T38 l0 x14_1).f7).length c483_7) := (bkC BK484.out 7).trans rfl
                          have hfz27_0 := bkF BK484.out 0
                          have hfz27_1 := bkF BK484.out 1
                          have hfz27_2 := bkF BK484.out 2
                          have hfz27_3 := bkF BK484.out 3
                          have hfz27_4 := bkF BK484.out 4
                          have hfz27_5 := bkF BK484.out 5
                          have hfz27_6 := bkF BK484.out 6
                          have hfz27_7 := bkF BK484.out 7
                          go_wp2_with (first | ((with_reducible refine gate_callee (f := 37) rfl ?_); refine goesL_ (some 41) rfl rfl Try.func37 (by kernel_rfl) rfl #[.agg #[.int .i64 ((rd_T38 l0 x14_1).f0), .int .i64 ((rd_T38 l0 x14_1).f1), .int .i64 ((rd_T38 l0 x14_1).f2), .int .i64 ((rd_T38 l0 x14_1).f3), .int .i64 ((rd_T38 l0 x14_1).f4), .slice A483_5 ((rd_T38 l0 x14_1).f5).length c483_5, .slice A483_6 ((rd_T38 l0 x14_1).f6).length c483_6, .slice A483_7 ((rd_T38 l0 x14_1).f7).length c483_7]] rfl (by (try simp only [List.map_toArray, List.map_cons, List.map_nil]); first | done | rfl | (simp only [List.length_drop, List.length_take]; rfl)) ?_; (with_reducible refine (culletlaw16_tables.calls kj9 ((rd_T38 l0 x14_1).f0) ((rd_T38 l0 x14_1).f1) ((rd_T38 l0 x14_1).f2) ((rd_T38 l0 x14_1).f3) ((rd_T38 l0 x14_1).f4) _ _ ((rd_T38 l0 x14_1).f5) _ _ ((rd_T38 l0 x14_1).f6) _ _ ((rd_T38 l0 x14_1).f7) true _ ?side1 ?side2 ?side3 ?side4 ?side5 ?side6 A25.out).mono ?_); (case side1 => repeat (first | exact (Kd.C_below HR483_5.out HB.out) | (with_reducible refine Kd.C_alloc ?_ _) | (with_reducible refine Kd.C_drewN ?_ _) | (with_reducible refine Kd.C_drew ?_))); (case side2 => exact HC483_5.out); (case side3 => repeat (first | exact (Kd.C_below HR483_6.out HB.out) | (with_reducible refine Kd.C_alloc ?_ _) | (with_reducible refine Kd.C_drewN ?_ _) | (with_reducible refine Kd.C_drew ?_))); (case side4 => exact HC483_6.out); (case side5 => repeat (first | exact (Kd.C_below HR483_7.out HB.out) | (with_reducible refine Kd.C_alloc ?_ _) | (with_reducible refine Kd.C_drewN ?_ _) | (with_reducible refine Kd.C_drew ?_))); (case side6 => exact HC483_7.out); rintro e w28 ⟨rfl, hb⟩; refine ⟨_, rfl, ?_⟩; have n0_ := Z0.mk (bkB (g := gb484) (o := .cells #[.int .i64 ((rd_T38 l0 x14_1).f0), .int .i64 ((rd_T38 l0 x14_1).f1), .int .i64 ((rd_T38 l0 x14_1).f2), .int .i64 ((rd_T38 l0 x14_1).f3), .int .i64 ((rd_T38 l0 x14_1).f4), .slice A483_5 ((rd_T38 l0 x14_1).f5).length c483_5, .slice A483_6 ((rd_T38 l0 x14_1).f6).length c483_6, .slice A483_7 ((rd_T38 l0 x14_1).f7).length c483_7] 38 (0, 0)) (by (with_reducible repeat (first | refine bkN ?_ _ | refine bkD ?_ | refine bkA ?_ _)); exact BK484.out) hb); have n1_ := Z0.mk (bwT (by repeat (first | (with_reducible first | exact HB.out | apply bwA | apply bwN | apply bw1 | refine bwS ?_ GE484.out) | exact HB.out)) hb); clear BK484; clear HB; have BK484 := n0_; have HB := n1_; clear n0_ n1_; (try clear hb); (try clear hb2); (try clear hk); (try clear hi)))
                          go_roundg kj9
                          case measure => have := HK1.out; have := HJ9.out; omega
                          case rel => exact ⟨(wrap64 (x14_1 + 1)), (by first | rfl | (simp; done) | (simp [*]; done)), H', ⟨by have := HK1.out; have := HJ9.out; omega⟩, ⟨by repeat (first | (with_reducible first | exact HB.out | apply bwA | apply bwN | apply bw1 | refine bwS ?_ GE484.out) | exact HB.out)⟩⟩
                        · replace c26 := Bool.eq_false_iff.mpr c26
                          subst c26
                          have H1 : (some false) = some r := by rw [if_neg (show ¬ (false = true) by decide)] at H; exact H
                          clear H
                          have H := H1
                          clear H1
                          obtain rfl := Option.some.inj H
                          have hcz29_0 : wc.cell? ⟨gb484, 0, none⟩ = some (.int .i64 ((rd_T38 l0 x14_1).f0)) := (bkC BK484.out 0).trans rfl
                          have hcz29_1 : wc.cell? ⟨gb484, 1, none⟩ = some (.int .i64 ((rd_T38 l0 x14_1).f1)) := (bkC BK484.out 1).trans rfl
                          have hcz29_2 : wc.cell? ⟨gb484, 2, none⟩ = some (.int .i64 ((rd_T38 l0 x14_1).f2)) := (bkC BK484.out 2).trans rfl
                          have hcz29_3 : wc.cell? ⟨gb484, 3, none⟩ = some (.int .i64 ((rd_T38 l0 x14_1).f3)) := (bkC BK484.out 3).trans rfl
                          have hcz29_4 : wc.cell? ⟨gb484, 4, none⟩ = some (.int .i64 ((rd_T38 l0 x14_1).f4)) := (bkC BK484.out 4).trans rfl
                          have hcz29_5 : wc.cell? ⟨gb484, 5, none⟩ = some (.slice A483_5 ((rd_T38 l0 x14_1).f5).length c483_5) := (bkC BK484.out 5).trans rfl
                          have hcz29_6 : wc.cell? ⟨gb484, 6, none⟩ = some (.slice A483_6 ((rd_T38 l0 x14_1).f6).length c483_6) := (bkC BK484.out 6).trans rfl
                          have hcz29_7 : wc.cell? ⟨gb484, 7, none⟩ = some (.slice A483_7 ((rd_T38 l0 x14_1).f7).length c483_7) := (bkC BK484.out 7).trans rfl
                          have hfz29_0 := bkF BK484.out 0
                          have hfz29_1 := bkF BK484.out 1
                          have hfz29_2 := bkF BK484.out 2
                          have hfz29_3 := bkF BK484.out 3
                          have hfz29_4 := bkF BK484.out 4
                          have hfz29_5 := bkF BK484.out 5
                          have hfz29_6 := bkF BK484.out 6
                          have hfz29_7 := bkF BK484.out 7
                          go_wp2_with (first | ((with_reducible refine gate_callee (f := 37) rfl ?_); refine goesL_ (some 41) rfl rfl Try.func37 (by kernel_rfl) rfl #[.agg #[.int .i64 ((rd_T38 l0 x14_1).f0), .int .i64 ((rd_T38 l0 x14_1).f1), .int .i64 ((rd_T38 l0 x14_1).f2), .int .i64 ((rd_T38 l0 x14_1).f3), .int .i64 ((rd_T38 l0 x14_1).f4), .slice A483_5 ((rd_T38 l0 x14_1).f5).length c483_5, .slice A483_6 ((rd_T38 l0 x14_1).f6).length c483_6, .slice A483_7 ((rd_T38 l0 x14_1).f7).length c483_7]] rfl (by (try simp only [List.map_toArray, List.map_cons, List.map_nil]); first | done | rfl | (simp only [List.length_drop, List.length_take]; rfl)) ?_; (with_reducible refine (culletlaw16_tables.calls kj9 ((rd_T38 l0 x14_1).f0) ((rd_T38 l0 x14_1).f1) ((rd_T38 l0 x14_1).f2) ((rd_T38 l0 x14_1).f3) ((rd_T38 l0 x14_1).f4) _ _ ((rd_T38 l0 x14_1).f5) _ _ ((rd_T38 l0 x14_1).f6) _ _ ((rd_T38 l0 x14_1).f7) false _ ?side1 ?side2 ?side3 ?side4 ?side5 ?side6 A25.out).mono ?_); (case side1 => repeat (first | exact (Kd.C_below HR483_5.out HB.out) | (with_reducible refine Kd.C_alloc ?_ _) | (with_reducible refine Kd.C_drewN ?_ _) | (with_reducible refine Kd.C_drew ?_))); (case side2 => exact HC483_5.out); (case side3 => repeat (first | exact (Kd.C_below HR483_6.out HB.out) | (with_reducible refine Kd.C_alloc ?_ _) | (with_reducible refine Kd.C_drewN ?_ _) | (with_reducible refine Kd.C_drew ?_))); (case side4 => exact HC483_6.out); (case side5 => repeat (first | exact (Kd.C_below HR483_7.out HB.out) | (with_reducible refine Kd.C_alloc ?_ _) | (with_reducible refine Kd.C_drewN ?_ _) | (with_reducible refine Kd.C_drew ?_))); (case side6 => exact HC483_7.out); rintro e w30 ⟨rfl, hb⟩; refine ⟨_, rfl, ?_⟩; have n0_ := Z0.mk (bkB (g := gb484) (o := .cells #[.int .i64 ((rd_T38 l0 x14_1).f0), .int .i64 ((rd_T38 l0 x14_1).f1), .int .i64 ((rd_T38 l0 x14_1).f2), .int .i64 ((rd_T38 l0 x14_1).f3), .int .i64 ((rd_T38 l0 x14_1).f4), .slice A483_5 ((rd_T38 l0 x14_1).f5).length c483_5, .slice A483_6 ((rd_T38 l0 x14_1).f6).length c483_6, .slice A483_7 ((rd_T38 l0 x14_1).f7).length c483_7] 38 (0, 0)) (by (with_reducible repeat (first | refine bkN ?_ _ | refine bkD ?_ | refine bkA ?_ _)); exact BK484.out) hb); have n1_ := Z0.mk (bwT (by repeat (first | (with_reducible first | exact HB.out | apply bwA | apply bwN | apply bw1 | refine bwS ?_ GE484.out) | exact HB.out)) hb); clear BK484; clear HB; have BK484 := n0_; have HB := n1_; clear n0_ n1_; (try clear hb); (try clear hb2); (try clear hk); (try clear hi)))
                          go_ret
                          exact ⟨by first | rfl | (simp [ewN, ewS] <;> rfl) | (simp [*, ewN, ewS] <;> rfl), by repeat (first | (with_reducible first | exact HB.out | apply bwA | apply bwN | apply bw1 | refine bwS ?_ GE484.out) | exact HB.out)⟩
                      · rw [if_neg c24] at H
                        have c24b0 : decide (((rd_T38 l0 x14_1).f0) ≤ 7) = false := decide_eq_false c24
                        clear c24
                        replace H := Option.bind_eq_some_iff.mp H
                        obtain ⟨t487, A310, H⟩ := H
                        try dsimp only at H
                        have A31 := Z0.mk A310
                        clear A310
                        by_cases c32 : t487 = true
                        · subst c32
                          have H1 : (culletlaw16_all.l0 kj9 a1 a2 l0 (l0.length : Int) (wrap64 (x14_1 + 1))) = some r := by rw [if_pos rfl] at H; exact H
                          clear H
                          have H := H1
                          clear H1
                          have H' := Z0.mk H
                          clear H
                          have hcz33_0 : wc.cell? ⟨gb484, 0, none⟩ = some (.int .i64 ((rd_T38 l0 x14_1).f0)) := (bkC BK484.out 0).trans rfl
                          have hcz33_1 : wc.cell? ⟨gb484, 1, none⟩ = some (.int .i64 ((rd_T38 l0 x14_1).f1)) := (bkC BK484.out 1).trans rfl
                          have hcz33_2 : wc.cell? ⟨gb484, 2, none⟩ = some (.int .i64 ((rd_T38 l0 x14_1).f2)) := (bkC BK484.out 2).trans rfl
                          have hcz33_3 : wc.cell? ⟨gb484, 3, none⟩ = some (.int .i64 ((rd_T38 l0 x14_1).f3)) := (bkC BK484.out 3).trans rfl
                          have hcz33_4 : wc.cell? ⟨gb484, 4, none⟩ = some (.int .i64 ((rd_T38 l0 x14_1).f4)) := (bkC BK484.out 4).trans rfl
                          have hcz33_5 : wc.cell? ⟨gb484, 5, none⟩ = some (.slice A483_5 ((rd_T38 l0 x14_1).f5).length c483_5) := (bkC BK484.out 5).trans rfl
                          have hcz33_6 : wc.cell? ⟨gb484, 6, none⟩ = some (.slice A483_6 ((rd_T38 l0 x14_1).f6).length c483_6) := (bkC BK484.out 6).trans rfl
                          have hcz33_7 : wc.cell? ⟨gb484, 7, none⟩ = some (.slice A483_7 ((rd_T38 l0 x14_1).f7).length c483_7) := (bkC BK484.out 7).trans rfl
                          have hfz33_0 := bkF BK484.out 0
                          have hfz33_1 := bkF BK484.out 1
                          have hfz33_2 := bkF BK484.out 2
                          have hfz33_3 := bkF BK484.out 3
                          have hfz33_4 := bkF BK484.out 4
                          have hfz33_5 := bkF BK484.out 5
                          have hfz33_6 := bkF BK484.out 6
                          have hfz33_7 := bkF BK484.out 7
                          go_wp2_with (first | ((with_reducible refine gate_callee (f := 38) rfl ?_); refine goesL_ (some 29) rfl rfl Try.func38 (by kernel_rfl) rfl #[.agg #[.int .i64 ((rd_T38 l0 x14_1).f0), .int .i64 ((rd_T38 l0 x14_1).f1), .int .i64 ((rd_T38 l0 x14_1).f2), .int .i64 ((rd_T38 l0 x14_1).f3), .int .i64 ((rd_T38 l0 x14_1).f4), .slice A483_5 ((rd_T38 l0 x14_1).f5).length c483_5, .slice A483_6 ((rd_T38 l0 x14_1).f6).length c483_6, .slice A483_7 ((rd_T38 l0 x14_1).f7).length c483_7]] rfl (by (try simp only [List.map_toArray, List.map_cons, List.map_nil]); first | done | rfl | (simp only [List.length_drop, List.length_take]; rfl)) ?_; (with_reducible refine (culletlaw16_moves.calls kj9 ((rd_T38 l0 x14_1).f0) ((rd_T38 l0 x14_1).f1) ((rd_T38 l0 x14_1).f2) ((rd_T38 l0 x14_1).f3) ((rd_T38 l0 x14_1).f4) _ _ ((rd_T38 l0 x14_1).f5) _ _ ((rd_T38 l0 x14_1).f6) _ _ ((rd_T38 l0 x14_1).f7) true _ ?side1 ?side2 ?side3 ?side4 ?side5 ?side6 A31.out).mono ?_); (case side1 => repeat (first | exact (Kd.C_below HR483_5.out HB.out) | (with_reducible refine Kd.C_alloc ?_ _) | (with_reducible refine Kd.C_drewN ?_ _) | (with_reducible refine Kd.C_drew ?_))); (case side2 => exact HC483_5.out); (case side3 => repeat (first | exact (Kd.C_below HR483_6.out HB.out) | (with_reducible refine Kd.C_alloc ?_ _) | (with_reducible refine Kd.C_drewN ?_ _) | (with_reducible refine Kd.C_drew ?_))); (case side4 => exact HC483_6.out); (case side5 => repeat (first | exact (Kd.C_below HR483_7.out HB.out) | (with_reducible refine Kd.C_alloc ?_ _) | (with_reducible refine Kd.C_drewN ?_ _) | (with_reducible refine Kd.C_drew ?_))); (case side6 => exact HC483_7.out); rintro e w34 ⟨rfl, hb⟩; refine ⟨_, rfl, ?_⟩; have n0_ := Z0.mk (bkB (g := gb484) (o := .cells #[.int .i64 ((rd_T38 l0 x14_1).f0), .int .i64 ((rd_T38 l0 x14_1).f1), .int .i64 ((rd_T38 l0 x14_1).f2), .int .i64 ((rd_T38 l0 x14_1).f3), .int .i64 ((rd_T38 l0 x14_1).f4), .slice A483_5 ((rd_T38 l0 x14_1).f5).length c483_5, .slice A483_6 ((rd_T38 l0 x14_1).f6).length c483_6, .slice A483_7 ((rd_T38 l0 x14_1).f7).length c483_7] 38 (0, 0)) (by (with_reducible repeat (first | refine bkN ?_ _ | refine bkD ?_ | refine bkA ?_ _)); exact BK484.out) hb); have n1_ := Z0.mk (bwT (by repeat (first | (with_reducible first | exact HB.out | apply bwA | apply bwN | apply bw1 | refine bwS ?_ GE484.out) | exact HB.out)) hb); clear BK484; clear HB; have BK484 := n0_; have HB := n1_; clear n0_ n1_; (try clear hb); (try clear hb2); (try clear hk); (try clear hi)))
                          go_roundg kj9
                          case measure => have := HK1.out; have := HJ9.out; omega
                          case rel => exact ⟨(wrap64 (x14_1 + 1)), (by first | rfl | (simp; done) | (simp [*]; done)), H', ⟨by have := HK1.out; have := HJ9.out; omega⟩, ⟨by repeat (first | (with_reducible first | exact HB.out | apply bwA | apply bwN | apply bw1 | refine bwS ?_ GE484.out) | exact HB.out)⟩⟩
                        · replace c32 := Bool.eq_false_iff.mpr c32
                          subst c32
                          have H1 : (some false) = some r := by rw [if_neg (show ¬ (false = true) by decide)] at H; exact H
                          clear H
                          have H := H1
                          clear H1
                          obtain rfl := Option.some.inj H
                          have hcz35_0 : wc.cell? ⟨gb484, 0, none⟩ = some (.int .i64 ((rd_T38 l0 x14_1).f0)) := (bkC BK484.out 0).trans rfl
                          have hcz35_1 : wc.cell? ⟨gb484, 1, none⟩ = some (.int .i64 ((rd_T38 l0 x14_1).f1)) := (bkC BK484.out 1).trans rfl
                          have hcz35_2 : wc.cell? ⟨gb484, 2, none⟩ = some (.int .i64 ((rd_T38 l0 x14_1).f2)) := (bkC BK484.out 2).trans rfl
                          have hcz35_3 : wc.cell? ⟨gb484, 3, none⟩ = some (.int .i64 ((rd_T38 l0 x14_1).f3)) := (bkC BK484.out 3).trans rfl
                          have hcz35_4 : wc.cell? ⟨gb484, 4, none⟩ = some (.int .i64 ((rd_T38 l0 x14_1).f4)) := (bkC BK484.out 4).trans rfl
                          have hcz35_5 : wc.cell? ⟨gb484, 5, none⟩ = some (.slice A483_5 ((rd_T38 l0 x14_1).f5).length c483_5) := (bkC BK484.out 5).trans rfl
                          have hcz35_6 : wc.cell? ⟨gb484, 6, none⟩ = some (.slice A483_6 ((rd_T38 l0 x14_1).f6).length c483_6) := (bkC BK484.out 6).trans rfl
                          have hcz35_7 : wc.cell? ⟨gb484, 7, none⟩ = some (.slice A483_7 ((rd_T38 l0 x14_1).f7).length c483_7) := (bkC BK484.out 7).trans rfl
                          have hfz35_0 := bkF BK484.out 0
                          have hfz35_1 := bkF BK484.out 1
                          have hfz35_2 := bkF BK484.out 2
                          have hfz35_3 := bkF BK484.out 3
                          have hfz35_4 := bkF BK484.out 4
                          have hfz35_5 := bkF BK484.out 5
                          have hfz35_6 := bkF BK484.out 6
                          have hfz35_7 := bkF BK484.out 7
                          go_wp2_with (first | ((with_reducible refine gate_callee (f := 38) rfl ?_); refine goesL_ (some 29) rfl rfl Try.func38 (by kernel_rfl) rfl #[.agg #[.int .i64 ((rd_T38 l0 x14_1).f0), .int .i64 ((rd_T38 l0 x14_1).f1), .int .i64 ((rd_T38 l0 x14_1).f2), .int .i64 ((rd_T38 l0 x14_1).f3), .int .i64 ((rd_T38 l0 x14_1).f4), .slice A483_5 ((rd_T38 l0 x14_1).f5).length c483_5, .slice A483_6 ((rd_T38 l0 x14_1).f6).length c483_6, .slice A483_7 ((rd_T38 l0 x14_1).f7).length c483_7]] rfl (by (try simp only [List.map_toArray, List.map_cons, List.map_nil]); first | done | rfl | (simp only [List.length_drop, List.length_take]; rfl)) ?_; (with_reducible refine (culletlaw16_moves.calls kj9 ((rd_T38 l0 x14_1).f0) ((rd_T38 l0 x14_1).f1) ((rd_T38 l0 x14_1).f2) ((rd_T38 l0 x14_1).f3) ((rd_T38 l0 x14_1).f4) _ _ ((rd_T38 l0 x14_1).f5) _ _ ((rd_T38 l0 x14_1).f6) _ _ ((rd_T38 l0 x14_1).f7) false _ ?side1 ?side2 ?side3 ?side4 ?side5 ?side6 A31.out).mono ?_); (case side1 => repeat (first | exact (Kd.C_below HR483_5.out HB.out) | (with_reducible refine Kd.C_alloc ?_ _) | (with_reducible refine Kd.C_drewN ?_ _) | (with_reducible refine Kd.C_drew ?_))); (case side2 => exact HC483_5.out); (case side3 => repeat (first | exact (Kd.C_below HR483_6.out HB.out) | (with_reducible refine Kd.C_alloc ?_ _) | (with_reducible refine Kd.C_drewN ?_ _) | (with_reducible refine Kd.C_drew ?_))); (case side4 => exact HC483_6.out); (case side5 => repeat (first | exact (Kd.C_below HR483_7.out HB.out) | (with_reducible refine Kd.C_alloc ?_ _) | (with_reducible refine Kd.C_drewN ?_ _) | (with_reducible refine Kd.C_drew ?_))); (case side6 => exact HC483_7.out); rintro e w36 ⟨rfl, hb⟩; refine ⟨_, rfl, ?_⟩; have n0_ := Z0.mk (bkB (g := gb484) (o := .cells #[.int .i64 ((rd_T38 l0 x14_1).f0), .int .i64 ((rd_T38 l0 x14_1).f1), .int .i64 ((rd_T38 l0 x14_1).f2), .int .i64 ((rd_T38 l0 x14_1).f3), .int .i64 ((rd_T38 l0 x14_1).f4), .slice A483_5 ((rd_T38 l0 x14_1).f5).length c483_5, .slice A483_6 ((rd_T38 l0 x14_1).f6).length c483_6, .slice A483_7 ((rd_T38 l0 x14_1).f7).length c483_7] 38 (0, 0)) (by (with_reducible repeat (first | refine bkN ?_ _ | refine bkD ?_ | refine bkA ?_ _)); exact BK484.out) hb); have n1_ := Z0.mk (bwT (by repeat (first | (with_reducible first | exact HB.out | apply bwA | apply bwN | apply bw1 | refine bwS ?_ GE484.out) | exact HB.out)) hb); clear BK484; clear HB; have BK484 := n0_; have HB := n1_; clear n0_ n1_; (try clear hb); (try clear hb2); (try clear hk); (try clear hi)))
                          go_ret
                          exact ⟨by first | rfl | (simp [ewN, ewS] <;> rfl) | (simp [*, ewN, ewS] <;> rfl), by repeat (first | (with_reducible first | exact HB.out | apply bwA | apply bwN | apply bw1 | refine bwS ?_ GE484.out) | exact HB.out)⟩
            · rw [if_neg c9] at H
              exact absurd H (by simp)
          · rw [if_neg c8] at H
            exact absurd H (by simp)
        · rw [if_neg c7] at H
          have c7b0 : decide (x14_1 < (l0.length : Int)) = false := decide_eq_false c7
          clear c7
          obtain rfl := Option.some.inj H
          go_wp2
          go_ret
          exact ⟨by first | rfl | (simp [ewN, ewS] <;> rfl) | (simp [*, ewN, ewS] <;> rfl), by repeat (first | (with_reducible first | exact HB.out | apply bwA | apply bwN | apply bw1) | exact HB.out)⟩
  · replace c5 := Bool.eq_false_iff.mpr c5
    subst c5
    have H1 : (some false) = some r := by rw [if_neg (show ¬ (false = true) by decide)] at H; exact H
    clear H
    have H := H1
    clear H1
    obtain rfl := Option.some.inj H
    go_enter Try.func27, Try.ntmps27
    go_wp2_with (first | ((with_reducible refine gate_callee (f := 13) rfl ?_); refine goesL_ (some 10) rfl rfl Try.func13 (by kernel_rfl) rfl #[] rfl (by (try simp only [List.map_toArray, List.map_cons, List.map_nil]); first | done | rfl | (simp only [List.length_drop, List.length_take]; rfl)) ?_; (with_reducible refine (culletlaw16_awake.calls k  false _ A4.out).mono ?_); rintro e w37 ⟨rfl, hb⟩; refine ⟨_, rfl, ?_⟩; have n0_ := Z0.mk (bwT (by repeat (first | (with_reducible first | exact HB.out | apply bwA | apply bwN | apply bw1) | exact HB.out)) hb); clear HB; have HB := n0_; clear n0_; (try clear hb); (try clear hb2); (try clear hk); (try clear hi)))
    go_ret
    exact ⟨by first | rfl | (simp [ewN, ewS] <;> rfl) | (simp [*, ewN, ewS] <;> rfl), by repeat (first | (with_reducible first | exact HB.out | apply bwA | apply bwN | apply bw1) | exact HB.out)⟩

end Go.Proofs.Ytcbjabnnokjnpaa.PA

namespace Go.Proofs.Ytcbjabnnokjnpaa.PA
open Go.RowKit Go.Proofs.YtcbjabnnokjnpaaW.PrintWords Go.Proofs.YtcbjabnnokjnpaaW.PrintLast Go.Proofs.YtcbjabnnokjnpaaW.PrintMore
attribute [local go_sem] max2_int min2_int max_two min_two max_three min_three max_four min_four   -- for this text's walks alone
set_option linter.unusedVariables false
set_option linter.unusedSimpArgs false

/-! ### culletlaw16_ShapeNumbers: function 9 -/
def culletlaw16_ShapeNumbers.f (k : Nat) (l0 : List (S38)) : Option (Bool) := (culletlaw16_all.f k l0 1 4).bind fun t488 => (some t488)
theorem culletlaw16_ShapeNumbers.mono : ∀ a0 k, LeO (culletlaw16_ShapeNumbers.f k a0) (culletlaw16_ShapeNumbers.f (k + 1) a0) := by
  intro a0 k
  unfold culletlaw16_ShapeNumbers.f
  repeat' first
      | (with_reducible exact culletlaw16_all.mono _ _ _ _)
      | (with_reducible exact LeO.refl _)
      | (with_reducible exact LeO.none _)
      | (with_reducible refine LeO.ite ?_ ?_)
      | (with_reducible refine LeO.bind ?_ (fun _ => ?_))
      | exact culletlaw16_all.mono _ _ _ _
      | exact LeO.none _
      | refine LeO.ite ?_ ?_
      | refine LeO.bind ?_ (fun _ => ?_)
set_option maxHeartbeats 8000000 in
set_option maxRecDepth 100000 in
theorem culletlaw16_ShapeNumbers.calls (k : Nat) (A0 : Option Addr) (c0 : Nat) (l0 : List (S38)) (r : Bool) (w : World) (hr0 : Kd.C k38 w A0 l0.length l0) (hc0 : l0.length ≤ c0) (h : culletlaw16_ShapeNumbers.f k l0 = some r) :
    Calls Try.prog 9 #[.slice A0 l0.length c0] w fun e w' => e = .returned (.bool r) ∧ Below w.heap.size w w' := by
  have HR0 := Z0.mk hr0
  have HC0 := Z0.mk hc0
  clear hr0 hc0
  have HB := Z0.mk (Below.refl w.heap.size w)
  have H : ((culletlaw16_all.f k l0 1 4).bind fun t488 => (some t488)) = some r := h
  clear h
  replace H := Option.bind_eq_some_iff.mp H
  obtain ⟨t488, A20, H⟩ := H
  replace H : (some t488) = some r := H
  have A2 := Z0.mk A20
  clear A20
  obtain rfl := Option.some.inj H
  go_enter Try.func9, Try.ntmps9
  go_wp2_with (first | ((with_reducible refine gate_callee (f := 27) rfl ?_); refine goesL_ (some 4) rfl rfl Try.func27 (by kernel_rfl) rfl #[.slice A0 l0.length c0, .int .i64 1, .int .i64 4] rfl (by (try simp only [List.map_toArray, List.map_cons, List.map_nil]); first | done | rfl | (simp only [List.length_drop, List.length_take]; rfl)) ?_; (with_reducible refine (culletlaw16_all.calls k _ _ l0 1 4 t488 _ ?side1 ?side2 A2.out).mono ?_); (case side1 => repeat (first | exact HR0.out | (with_reducible refine Kd.C_alloc ?_ _) | (with_reducible refine Kd.C_drewN ?_ _) | (with_reducible refine Kd.C_drew ?_))); (case side2 => exact HC0.out); rintro e w3 ⟨rfl, hb⟩; refine ⟨_, rfl, ?_⟩; have n0_ := Z0.mk (bwT (by repeat (first | (with_reducible first | exact HB.out | apply bwA | apply bwN | apply bw1) | exact HB.out)) hb); clear HB; have HB := n0_; clear n0_; (try clear hb); (try clear hb2); (try clear hk); (try clear hi)))
  go_ret
  exact ⟨by first | rfl | (simp [ewN, ewS] <;> rfl) | (simp [*, ewN, ewS] <;> rfl), by repeat (first | (with_reducible first | exact HB.out | apply bwA | apply bwN | apply bw1) | exact HB.out)⟩

/-! ### culletlaw16_ShapeTables: function 10 -/
def culletlaw16_ShapeTables.f (k : Nat) (l0 : List (S38)) : Option (Bool) := (culletlaw16_all.f k l0 5 7).bind fun t489 => (some t489)
theorem culletlaw16_ShapeTables.mono : ∀ a0 k, LeO (culletlaw16_ShapeTables.f k a0) (culletlaw16_ShapeTables.f (k + 1) a0) := by
  intro a0 k
  unfold culletlaw16_ShapeTables.f
  repeat' first
      | (with_reducible exact culletlaw16_all.mono _ _ _ _)
      | (with_reducible exact LeO.refl _)
      | (with_reducible exact LeO.none _)
      | (with_reducible refine LeO.ite ?_ ?_)
      | (with_reducible refine LeO.bind ?_ (fun _ => ?_))
      | exact culletlaw16_all.mono _ _ _ _
      | exact LeO.none _
      | refine LeO.ite ?_ ?_
      | refine LeO.bind ?_ (fun _ => ?_)
set_option maxHeartbeats 8000000 in
set_option maxRecDepth 100000 in
theorem culletlaw16_ShapeTables.calls (k : Nat) (A0 : Option Addr) (c0 : Nat) (l0 : List (S38)) (r : Bool) (w : World) (hr0 : Kd.C k38 w A0 l0.length l0) (hc0 : l0.length ≤ c0) (h : culletlaw16_ShapeTables.f k l0 = some r) :
    Calls Try.prog 10 #[.slice A0 l0.length c0] w fun e w' => e = .returned (.bool r) ∧ Below w.heap.size w w' := by
  have HR0 := Z0.mk hr0
  have HC0 := Z0.mk hc0
  clear hr0 hc0
  have HB := Z0.mk (Below.refl w.heap.size w)
  have H : ((culletlaw16_all.f k l0 5 7).bind fun t489 => (some t489)) = some r := h
  clear h
  replace H := Option.bind_eq_some_iff.mp H
  obtain ⟨t489, A20, H⟩ := H
  replace H : (some t489) = some r := H
  have A2 := Z0.mk A20
  clear A20
  obtain rfl := Option.some.inj H
  go_enter Try.func10, Try.ntmps10
  go_wp2_with (first | ((with_reducible refine gate_callee (f := 27) rfl ?_); refine goesL_ (some 4) rfl rfl Try.func27 (by kernel_rfl) rfl #[.slice A0 l0.length c0, .int .i64 5, .int .i64 7] rfl (by (try simp only [List.map_toArray, List.map_cons, List.map_nil]); first | done | rfl | (simp only [List.length_drop, List.length_take]; rfl)) ?_; (with_reducible refine (culletlaw16_all.calls k _ _ l0 5 7 t489 _ ?side1 ?side2 A2.out).mono ?_); (case side1 => repeat (first | exact HR0.out | (with_reducible refine Kd.C_alloc ?_ _) | (with_reducible refine Kd.C_drewN ?_ _) | (with_reducible refine Kd.C_drew ?_))); (case side2 => exact HC0.out); rintro e w3 ⟨rfl, hb⟩; refine ⟨_, rfl, ?_⟩; have n0_ := Z0.mk (bwT (by repeat (first | (with_reducible first | exact HB.out | apply bwA | apply bwN | apply bw1) | exact HB.out)) hb); clear HB; have HB := n0_; clear n0_; (try clear hb); (try clear hb2); (try clear hk); (try clear hi)))
  go_ret
  exact ⟨by first | rfl | (simp [ewN, ewS] <;> rfl) | (simp [*, ewN, ewS] <;> rfl), by repeat (first | (with_reducible first | exact HB.out | apply bwA | apply bwN | apply bw1) | exact HB.out)⟩

/-! ### culletlaw16_ShapeMoves: function 11 -/
def culletlaw16_ShapeMoves.f (k : Nat) (l0 : List (S38)) : Option (Bool) := (culletlaw16_all.f k l0 8 9).bind fun t490 => (some t490)
theorem culletlaw16_ShapeMoves.mono : ∀ a0 k, LeO (culletlaw16_ShapeMoves.f k a0) (culletlaw16_ShapeMoves.f (k + 1) a0) := by
  intro a0 k
  unfold culletlaw16_ShapeMoves.f
  repeat' first
      | (with_reducible exact culletlaw16_all.mono _ _ _ _)
      | (with_reducible exact LeO.refl _)
      | (with_reducible exact LeO.none _)
      | (with_reducible refine LeO.ite ?_ ?_)
      | (with_reducible refine LeO.bind ?_ (fun _ => ?_))
      | exact culletlaw16_all.mono _ _ _ _
      | exact LeO.none _
      | refine LeO.ite ?_ ?_
      | refine LeO.bind ?_ (fun _ => ?_)
set_option maxHeartbeats 8000000 in
set_option maxRecDepth 100000 in
theorem culletlaw16_ShapeMoves.calls (k : Nat) (A0 : Option Addr) (c0 : Nat) (l0 : List (S38)) (r : Bool) (w : World) (hr0 : Kd.C k38 w A0 l0.length l0) (hc0 : l0.length ≤ c0) (h : culletlaw16_ShapeMoves.f k l0 = some r) :
    Calls Try.prog 11 #[.slice A0 l0.length c0] w fun e w' => e = .returned (.bool r) ∧ Below w.heap.size w w' := by
  have HR0 := Z0.mk hr0
  have HC0 := Z0.mk hc0
  clear hr0 hc0
  have HB := Z0.mk (Below.refl w.heap.size w)
  have H : ((culletlaw16_all.f k l0 8 9).bind fun t490 => (some t490)) = some r := h
  clear h
  replace H := Option.bind_eq_some_iff.mp H
  obtain ⟨t490, A20, H⟩ := H
  replace H : (some t490) = some r := H
  have A2 := Z0.mk A20
  clear A20
  obtain rfl := Option.some.inj H
  go_enter Try.func11, Try.ntmps11
  go_wp2_with (first | ((with_reducible refine gate_callee (f := 27) rfl ?_); refine goesL_ (some 4) rfl rfl Try.func27 (by kernel_rfl) rfl #[.slice A0 l0.length c0, .int .i64 8, .int .i64 9] rfl (by (try simp only [List.map_toArray, List.map_cons, List.map_nil]); first | done | rfl | (simp only [List.length_drop, List.length_take]; rfl)) ?_; (with_reducible refine (culletlaw16_all.calls k _ _ l0 8 9 t490 _ ?side1 ?side2 A2.out).mono ?_); (case side1 => repeat (first | exact HR0.out | (with_reducible refine Kd.C_alloc ?_ _) | (with_reducible refine Kd.C_drewN ?_ _) | (with_reducible refine Kd.C_drew ?_))); (case side2 => exact HC0.out); rintro e w3 ⟨rfl, hb⟩; refine ⟨_, rfl, ?_⟩; have n0_ := Z0.mk (bwT (by repeat (first | (with_reducible first | exact HB.out | apply bwA | apply bwN | apply bw1) | exact HB.out)) hb); clear HB; have HB := n0_; clear n0_; (try clear hb); (try clear hb2); (try clear hk); (try clear hi)))
  go_ret
  exact ⟨by first | rfl | (simp [ewN, ewS] <;> rfl) | (simp [*, ewN, ewS] <;> rfl), by repeat (first | (with_reducible first | exact HB.out | apply bwA | apply bwN | apply bw1) | exact HB.out)⟩

end Go.Proofs.Ytcbjabnnokjnpaa.PA
