-- Written by a program of this session (wip/drive.py, merge.py) for this seat.
import Derived.Test.YtcbjabnnokjnpaaPAx0
import Derived.Test.YtcbjabnnokjnpaaPAx3
import Derived.Test.YtcbjabnnokjnpaaPAx4
namespace Go.Proofs.Ytcbjabnnokjnpaa.PA
open Go.RowKit Go.Proofs.YtcbjabnnokjnpaaW.PrintWords Go.Proofs.YtcbjabnnokjnpaaW.PrintLast Go.Proofs.YtcbjabnnokjnpaaW.PrintMore
attribute [local go_sem] max2_int min2_int max_two min_two max_three min_three max_four min_four   -- for this text's walks alone
set_option linter.unusedVariables false
set_option linter.unusedSimpArgs false

/-! ### culletlaw16_ShapeBack: function 6 -/
mutual
def culletlaw16_ShapeBack.j0 : Nat → List Int → Int → Int → Int → Int → List (List Int) → Bool → Option (Bool)
  | 0, _, _, _, _, _, _, _ => none
  | k + 1, x1, x5, x6, x7, x8, x10, x101 => if x101 = true then (some false) else ((shape_Join.f k x5 x6 x7 x10 (x1.length : Int)).bind fun bt211 => (if bt211.2 = 0 then ((culletlaw16_sameBytes.f k bt211.1 x1).bind fun t215 => (if t215 = true then (culletlaw16_ShapeBack.j1 k x1 x5 x6 x7 x8 x10 ((x10.length : Int) != (wrap64 (x6 + x7)))) else (culletlaw16_ShapeBack.j1 k x1 x5 x6 x7 x8 x10 true))) else (culletlaw16_ShapeBack.j1 k x1 x5 x6 x7 x8 x10 true)))
def culletlaw16_ShapeBack.j1 : Nat → List Int → Int → Int → Int → Int → List (List Int) → Bool → Option (Bool)
  | 0, _, _, _, _, _, _, _ => none
  | k + 1, x1, x5, x6, x7, x8, x10, x127 => if x127 = true then (some false) else (if 0 ≤ x6 then (if x6 ≤ (x10.length : Int) then ((shape_Join.f k x5 x6 x7 (x10.take (x6 : Int).toNat) (wrap64 (x6 * x8))).bind fun bt220 => (if bt220.2 = 0 then (culletlaw16_ShapeBack.j2 k x1 x5 x6 x7 x8 x10 bt220.1 ((bt220.1.length : Int) != (wrap64 (x6 * x8)))) else (culletlaw16_ShapeBack.j2 k x1 x5 x6 x7 x8 x10 bt220.1 true))) else (none)) else (none))
def culletlaw16_ShapeBack.j2 : Nat → List Int → Int → Int → Int → Int → List (List Int) → List Int → Bool → Option (Bool)
  | 0, _, _, _, _, _, _, _, _ => none
  | k + 1, x1, x5, x6, x7, x8, x10, x15, x150 => if x150 = true then (some false) else (culletlaw16_ShapeBack.l0 k x5 x6 x7 x8 x10 x15 (x1.length : Int))
def culletlaw16_ShapeBack.l0 : Nat → Int → Int → Int → Int → List (List Int) → List Int → Int → Option (Bool)
  | 0, _, _, _, _, _, _, _ => none
  | k + 1, x5, x6, x7, x8, x10, x15, x16 => if x16 < (wrap64 (x6 * x8)) then (if 0 ≤ x16 then (if x16 < (x15.length : Int) then (if (rd x15 x16) = 0 then (culletlaw16_ShapeBack.l0 k x5 x6 x7 x8 x10 x15 (wrap64 (x16 + 1))) else (some false)) else (none)) else (none)) else (culletlaw16_ShapeBack.l1 k x5 x6 x7 x8 x10 x6)
def culletlaw16_ShapeBack.l1 : Nat → Int → Int → Int → Int → List (List Int) → Int → Option (Bool)
  | 0, _, _, _, _, _, _ => none
  | k + 1, x5, x6, x7, x8, x10, x17 => if x17 < (wrap64 (x6 + x7)) then (culletlaw16_ShapeBack.l2 k x5 x6 x7 x8 x10 x17 0) else ((shape_Join.f k x5 x6 x7 x10 (wrap64 ((wrap64 (x6 * x8)) + 1))).bind fun bt225 => (some (bt225.2 == 164)))
def culletlaw16_ShapeBack.l2 : Nat → Int → Int → Int → Int → List (List Int) → Int → Int → Option (Bool)
  | 0, _, _, _, _, _, _, _ => none
  | k + 1, x5, x6, x7, x8, x10, x17, x18 => if x18 < x8 then (if 0 ≤ x17 then (if x17 < (x10.length : Int) then (if 0 ≤ x18 then (if x18 < ((rd_L2 x10 x17).length : Int) then (if (rd (rd_L2 x10 x17) x18) = 0 then (culletlaw16_ShapeBack.l2 k x5 x6 x7 x8 x10 x17 (wrap64 (x18 + 1))) else (some false)) else (none)) else (none)) else (none)) else (none)) else (culletlaw16_ShapeBack.l1 k x5 x6 x7 x8 x10 (wrap64 (x17 + 1)))
end
def culletlaw16_ShapeBack.f (k : Nat) (a0_0 : Int) (a0_1 : Int) (a0_2 : Int) (l1 : List Int) : Option (Bool) := (culletlaw16_awake.f k).bind fun t195 => (if t195 = true then ((culletlaw16_great.f k 0 a0_0 a0_1 a0_2 0 ([] : List (List Int)) ([] : List (List Int)) l1).bind fun t196 => (if t196 = true then (some true) else ((shape_Length.f k a0_0 a0_1 a0_2 (l1.length : Int)).bind fun bt197 => ((some (([] : List Int) : List Int)).bind fun y199 => (if y199.length + l1.length < 140737488355328 then ((shape_Split.f k a0_0 a0_1 a0_2 (y199 ++ l1)).bind fun bt205 => (if bt197.2 = 0 then (if (wrap64 (a0_1 + a0_2)) = 0 then (none) else (if bt197.1 > (wrap64 (Int.tdiv (67108864 : Int) (wrap64 (a0_1 + a0_2)))) then (if bt205.2 = 5 then (some ((bt205.1.length : Int) == 0)) else (some false)) else ((shape_Whole.f k a0_0 a0_1 a0_2 bt205.1).bind fun bt209 => (if bt205.2 = 0 then (if bt209.2 = 0 then (if bt209.1 = bt197.1 then (culletlaw16_ShapeBack.j0 k l1 a0_0 a0_1 a0_2 bt197.1 bt205.1 ((bt205.1.length : Int) != (wrap64 (a0_1 + a0_2)))) else (culletlaw16_ShapeBack.j0 k l1 a0_0 a0_1 a0_2 bt197.1 bt205.1 true)) else (culletlaw16_ShapeBack.j0 k l1 a0_0 a0_1 a0_2 bt197.1 bt205.1 true)) else (culletlaw16_ShapeBack.j0 k l1 a0_0 a0_1 a0_2 bt197.1 bt205.1 true))))) else (if bt205.2 = bt197.2 then (some ((bt205.1.length : Int) == 0)) else (some false)))) else (none)))))) else (some false))
theorem culletlaw16_ShapeBack.mono_l : ∀ k, (∀ y0 y1 y2 y3 y4 y5 y6, LeO (culletlaw16_ShapeBack.j0 k y0 y1 y2 y3 y4 y5 y6) (culletlaw16_ShapeBack.j0 (k + 1) y0 y1 y2 y3 y4 y5 y6)) ∧ (∀ y0 y1 y2 y3 y4 y5 y6, LeO (culletlaw16_ShapeBack.j1 k y0 y1 y2 y3 y4 y5 y6) (culletlaw16_ShapeBack.j1 (k + 1) y0 y1 y2 y3 y4 y5 y6)) ∧ (∀ y0 y1 y2 y3 y4 y5 y6 y7, LeO (culletlaw16_ShapeBack.j2 k y0 y1 y2 y3 y4 y5 y6 y7) (culletlaw16_ShapeBack.j2 (k + 1) y0 y1 y2 y3 y4 y5 y6 y7)) ∧ (∀ y0 y1 y2 y3 y4 y5 y6, LeO (culletlaw16_ShapeBack.l0 k y0 y1 y2 y3 y4 y5 y6) (culletlaw16_ShapeBack.l0 (k + 1) y0 y1 y2 y3 y4 y5 y6)) ∧ (∀ y0 y1 y2 y3 y4 y5, LeO (culletlaw16_ShapeBack.l1 k y0 y1 y2 y3 y4 y5) (culletlaw16_ShapeBack.l1 (k + 1) y0 y1 y2 y3 y4 y5)) ∧ (∀ y0 y1 y2 y3 y4 y5 y6, LeO (culletlaw16_ShapeBack.l2 k y0 y1 y2 y3 y4 y5 y6) (culletlaw16_ShapeBack.l2 (k + 1) y0 y1 y2 y3 y4 y5 y6))
  | 0 => ⟨fun _ _ _ _ _ _ _ r h => by simp [culletlaw16_ShapeBack.j0] at h, fun _ _ _ _ _ _ _ r h => by simp [culletlaw16_ShapeBack.j1] at h, fun _ _ _ _ _ _ _ _ r h => by simp [culletlaw16_ShapeBack.j2] at h, fun _ _ _ _ _ _ _ r h => by simp [culletlaw16_ShapeBack.l0] at h, fun _ _ _ _ _ _ r h => by simp [culletlaw16_ShapeBack.l1] at h, fun _ _ _ _ _ _ _ r h => by simp [culletlaw16_ShapeBack.l2] at h⟩
  | k + 1 => by
    obtain ⟨ih0, ih1, ih2, ih3, ih4, ih5⟩ := culletlaw16_ShapeBack.mono_l k
    refine ⟨?_, ?_, ?_, ?_, ?_, ?_⟩
    · intro y0 y1 y2 y3 y4 y5 y6
      unfold culletlaw16_ShapeBack.j0
      repeat' first
      | (with_reducible exact ih0 _ _ _ _ _ _ _)
      | (with_reducible exact ih1 _ _ _ _ _ _ _)
      | (with_reducible exact ih2 _ _ _ _ _ _ _ _)
      | (with_reducible exact ih3 _ _ _ _ _ _ _)
      | (with_reducible exact ih4 _ _ _ _ _ _)
      | (with_reducible exact ih5 _ _ _ _ _ _ _)
      | (with_reducible exact culletlaw16_awake.mono _)
      | (with_reducible exact culletlaw16_great.mono _ _ _ _ _ _ _ _ _)
      | (with_reducible exact culletlaw16_sameBytes.mono _ _ _)
      | (with_reducible exact shape_Join.mono _ _ _ _ _ _)
      | (with_reducible exact shape_Length.mono _ _ _ _ _)
      | (with_reducible exact shape_Split.mono _ _ _ _ _)
      | (with_reducible exact shape_Whole.mono _ _ _ _ _)
      | (with_reducible exact LeO.refl _)
      | (with_reducible exact LeO.none _)
      | (with_reducible refine LeO.ite ?_ ?_)
      | (with_reducible refine LeO.bind ?_ (fun _ => ?_))
      | exact ih0 _ _ _ _ _ _ _
      | exact ih1 _ _ _ _ _ _ _
      | exact ih2 _ _ _ _ _ _ _ _
      | exact ih3 _ _ _ _ _ _ _
      | exact ih4 _ _ _ _ _ _
      | exact ih5 _ _ _ _ _ _ _
      | exact culletlaw16_awake.mono _
      | exact culletlaw16_great.mono _ _ _ _ _ _ _ _ _
      | exact culletlaw16_sameBytes.mono _ _ _
      | exact shape_Join.mono _ _ _ _ _ _
      | exact shape_Length.mono _ _ _ _ _
      | exact shape_Split.mono _ _ _ _ _
      | exact shape_Whole.mono _ _ _ _ _
      | exact LeO.none _
      | refine LeO.ite ?_ ?_
      | refine LeO.bind ?_ (fun _ => ?_)
    · intro y0 y1 y2 y3 y4 y5 y6
      unfold culletlaw16_ShapeBack.j1
      repeat' first
      | (with_reducible exact ih0 _ _ _ _ _ _ _)
      | (with_reducible exact ih1 _ _ _ _ _ _ _)
      | (with_reducible exact ih2 _ _ _ _ _ _ _ _)
      | (with_reducible exact ih3 _ _ _ _ _ _ _)
      | (with_reducible exact ih4 _ _ _ _ _ _)
      | (with_reducible exact ih5 _ _ _ _ _ _ _)
      | (with_reducible exact culletlaw16_awake.mono _)
      | (with_reducible exact culletlaw16_great.mono _ _ _ _ _ _ _ _ _)
      | (with_reducible exact culletlaw16_sameBytes.mono _ _ _)
      | (with_reducible exact shape_Join.mono _ _ _ _ _ _)
      | (with_reducible exact shape_Length.mono _ _ _ _ _)
      | (with_reducible exact shape_Split.mono _ _ _ _ _)
      | (with_reducible exact shape_Whole.mono _ _ _ _ _)
      | (with_reducible exact LeO.refl _)
      | (with_reducible exact LeO.none _)
      | (with_reducible refine LeO.ite ?_ ?_)
      | (with_reducible refine LeO.bind ?_ (fun _ => ?_))
      | exact ih0 _ _ _ _ _ _ _
      | exact ih1 _ _ _ _ _ _ _
      | exact ih2 _ _ _ _ _ _ _ _
      | exact ih3 _ _ _ _ _ _ _
      | exact ih4 _ _ _ _ _ _
      | exact ih5 _ _ _ _ _ _ _
      | exact culletlaw16_awake.mono _
      | exact culletlaw16_great.mono _ _ _ _ _ _ _ _ _
      | exact culletlaw16_sameBytes.mono _ _ _
      | exact shape_Join.mono _ _ _ _ _ _
      | exact shape_Length.mono _ _ _ _ _
      | exact shape_Split.mono _ _ _ _ _
      | exact shape_Whole.mono _ _ _ _ _
      | exact LeO.none _
      | refine LeO.ite ?_ ?_
      | refine LeO.bind ?_ (fun _ => ?_)
    · intro y0 y1 y2 y3 y4 y5 y6 y7
      unfold culletlaw16_ShapeBack.j2
      repeat' first
      | (with_reducible exact ih0 _ _ _ _ _ _ _)
      | (with_reducible exact ih1 _ _ _ _ _ _ _)
      | (with_reducible exact ih2 _ _ _ _ _ _ _ _)
      | (with_reducible exact ih3 _ _ _ _ _ _ _)
      | (with_reducible exact ih4 _ _ _ _ _ _)
      | (with_reducible exact ih5 _ _ _ _ _ _ _)
      | (with_reducible exact culletlaw16_awake.mono _)
      | (with_reducible exact culletlaw16_great.mono _ _ _ _ _ _ _ _ _)
      | (with_reducible exact culletlaw16_sameBytes.mono _ _ _)
      | (with_reducible exact shape_Join.mono _ _ _ _ _ _)
      | (with_reducible exact shape_Length.mono _ _ _ _ _)
      | (with_reducible exact shape_Split.mono _ _ _ _ _)
      | (with_reducible exact shape_Whole.mono _ _ _ _ _)
      | (with_reducible exact LeO.refl _)
      | (with_reducible exact LeO.none _)
      | (with_reducible refine LeO.ite ?_ ?_)
      | (with_reducible refine LeO.bind ?_ (fun _ => ?_))
      | exact ih0 _ _ _ _ _ _ _
      | exact ih1 _ _ _ _ _ _ _
      | exact ih2 _ _ _ _ _ _ _ _
      | exact ih3 _ _ _ _ _ _ _
      | exact ih4 _ _ _ _ _ _
      | exact ih5 _ _ _ _ _ _ _
      | exact culletlaw16_awake.mono _
      | exact culletlaw16_great.mono _ _ _ _ _ _ _ _ _
      | exact culletlaw16_sameBytes.mono _ _ _
      | exact shape_Join.mono _ _ _ _ _ _
      | exact shape_Length.mono _ _ _ _ _
      | exact shape_Split.mono _ _ _ _ _
      | exact shape_Whole.mono _ _ _ _ _
      | exact LeO.none _
      | refine LeO.ite ?_ ?_
      | refine LeO.bind ?_ (fun _ => ?_)
    · intro y0 y1 y2 y3 y4 y5 y6
      unfold culletlaw16_ShapeBack.l0
      repeat' first
      | (with_reducible exact ih0 _ _ _ _ _ _ _)
      | (with_reducible exact ih1 _ _ _ _ _ _ _)
      | (with_reducible exact ih2 _ _ _ _ _ _ _ _)
      | (with_reducible exact ih3 _ _ _ _ _ _ _)
      | (with_reducible exact ih4 _ _ _ _ _ _)
      | (with_reducible exact ih5 _ _ _ _ _ _ _)
      | (with_reducible exact culletlaw16_awake.mono _)
      | (with_reducible exact culletlaw16_great.mono _ _ _ _ _ _ _ _ _)
      | (with_reducible exact culletlaw16_sameBytes.mono _ _ _)
      | (with_reducible exact shape_Join.mono _ _ _ _ _ _)
      | (with_reducible exact shape_Length.mono _ _ _ _ _)
      | (with_reducible exact shape_Split.mono _ _ _ _ _)
      | (with_reducible exact shape_Whole.mono _ _ _ _ _)
      | (with_reducible exact LeO.refl _)
      | (with_reducible exact LeO.none _)
      | (with_reducible refine LeO.ite ?_ ?_)
      | (with_reducible refine LeO.bind ?_ (fun _ => ?_))
      | exact ih0 _ _ _ _ _ _ _
      | exact ih1 _ _ _ _ _ _ _
      | exact ih2 _ _ _ _ _ _ _ _
      | exact ih3 _ _ _ _ _ _ _
      | exact ih4 _ _ _ _ _ _
      | exact ih5 _ _ _ _ _ _ _
      | exact culletlaw16_awake.mono _
      | exact culletlaw16_great.mono _ _ _ _ _ _ _ _ _
      | exact culletlaw16_sameBytes.mono _ _ _
      | exact shape_Join.mono _ _ _ _ _ _
      | exact shape_Length.mono _ _ _ _ _
      | exact shape_Split.mono _ _ _ _ _
      | exact shape_Whole.mono _ _ _ _ _
      | exact LeO.none _
      | refine LeO.ite ?_ ?_
      | refine LeO.bind ?_ (fun _ => ?_)
    · intro y0 y1 y2 y3 y4 y5
      unfold culletlaw16_ShapeBack.l1
      repeat' first
      | (with_reducible exact ih0 _ _ _ _ _ _ _)
      | (with_reducible exact ih1 _ _ _ _ _ _ _)
      | (with_reducible exact ih2 _ _ _ _ _ _ _ _)
      | (with_reducible exact ih3 _ _ _ _ _ _ _)
      | (with_reducible exact ih4 _ _ _ _ _ _)
      | (with_reducible exact ih5 _ _ _ _ _ _ _)
      | (with_reducible exact culletlaw16_awake.mono _)
      | (with_reducible exact culletlaw16_great.mono _ _ _ _ _ _ _ _ _)
      | (with_reducible exact culletlaw16_sameBytes.mono _ _ _)
      | (with_reducible exact shape_Join.mono _ _ _ _ _ _)
      | (with_reducible exact shape_Length.mono _ _ _ _ _)
      | (with_reducible exact shape_Split.mono _ _ _ _ _)
      | (with_reducible exact shape_Whole.mono _ _ _ _ _)
      | (with_reducible exact LeO.refl _)
      | (with_reducible exact LeO.none _)
      | (with_reducible refine LeO.ite ?_ ?_)
      | (with_reducible refine LeO.bind ?_ (fun _ => ?_))
      | exact ih0 _ _ _ _ _ _ _
      | exact ih1 _ _ _ _ _ _ _
      | exact ih2 _ _ _ _ _ _ _ _
      | exact ih3 _ _ _ _ _ _ _
      | exact ih4 _ _ _ _ _ _
      | exact ih5 _ _ _ _ _ _ _
      | exact culletlaw16_awake.mono _
      | exact culletlaw16_great.mono _ _ _ _ _ _ _ _ _
      | exact culletlaw16_sameBytes.mono _ _ _
      | exact shape_Join.mono _ _ _ _ _ _
      | exact shape_Length.mono _ _ _ _ _
      | exact shape_Split.mono _ _ _ _ _
      | exact shape_Whole.mono _ _ _ _ _
      | exact LeO.none _
      | refine LeO.ite ?_ ?_
      | refine LeO.bind ?_ (fun _ => ?_)
    · intro y0 y1 y2 y3 y4 y5 y6
      unfold culletlaw16_ShapeBack.l2
      repeat' first
      | (with_reducible exact ih0 _ _ _ _ _ _ _)
      | (with_reducible exact ih1 _ _ _ _ _ _ _)
      | (with_reducible exact ih2 _ _ _ _ _ _ _ _)
      | (with_reducible exact ih3 _ _ _ _ _ _ _)
      | (with_reducible exact ih4 _ _ _ _ _ _)
      | (with_reducible exact ih5 _ _ _ _ _ _ _)
      | (with_reducible exact culletlaw16_awake.mono _)
      | (with_reducible exact culletlaw16_great.mono _ _ _ _ _ _ _ _ _)
      | (with_reducible exact culletlaw16_sameBytes.mono _ _ _)
      | (with_reducible exact shape_Join.mono _ _ _ _ _ _)
      | (with_reducible exact shape_Length.mono _ _ _ _ _)
      | (with_reducible exact shape_Split.mono _ _ _ _ _)
      | (with_reducible exact shape_Whole.mono _ _ _ _ _)
      | (with_reducible exact LeO.refl _)
      | (with_reducible exact LeO.none _)
      | (with_reducible refine LeO.ite ?_ ?_)
      | (with_reducible refine LeO.bind ?_ (fun _ => ?_))
      | exact ih0 _ _ _ _ _ _ _
      | exact ih1 _ _ _ _ _ _ _
      | exact ih2 _ _ _ _ _ _ _ _
      | exact ih3 _ _ _ _ _ _ _
      | exact ih4 _ _ _ _ _ _
      | exact ih5 _ _ _ _ _ _ _
      | exact culletlaw16_awake.mono _
      | exact culletlaw16_great.mono _ _ _ _ _ _ _ _ _
      | exact culletlaw16_sameBytes.mono _ _ _
      | exact shape_Join.mono _ _ _ _ _ _
      | exact shape_Length.mono _ _ _ _ _
      | exact shape_Split.mono _ _ _ _ _
      | exact shape_Whole.mono _ _ _ _ _
      | exact LeO.none _
      | refine LeO.ite ?_ ?_
      | refine LeO.bind ?_ (fun _ => ?_)
theorem culletlaw16_ShapeBack.mono : ∀ a0 a1 a2 a3 k, LeO (culletlaw16_ShapeBack.f k a0 a1 a2 a3) (culletlaw16_ShapeBack.f (k + 1) a0 a1 a2 a3) := by
  intro a0 a1 a2 a3 k
  obtain ⟨ih0, ih1, ih2, ih3, ih4, ih5⟩ := culletlaw16_ShapeBack.mono_l k
  unfold culletlaw16_ShapeBack.f
  repeat' first
      | (with_reducible exact ih0 _ _ _ _ _ _ _)
      | (with_reducible exact ih1 _ _ _ _ _ _ _)
      | (with_reducible exact ih2 _ _ _ _ _ _ _ _)
      | (with_reducible exact ih3 _ _ _ _ _ _ _)
      | (with_reducible exact ih4 _ _ _ _ _ _)
      | (with_reducible exact ih5 _ _ _ _ _ _ _)
      | (with_reducible exact culletlaw16_awake.mono _)
      | (with_reducible exact culletlaw16_great.mono _ _ _ _ _ _ _ _ _)
      | (with_reducible exact culletlaw16_sameBytes.mono _ _ _)
      | (with_reducible exact shape_Join.mono _ _ _ _ _ _)
      | (with_reducible exact shape_Length.mono _ _ _ _ _)
      | (with_reducible exact shape_Split.mono _ _ _ _ _)
      | (with_reducible exact shape_Whole.mono _ _ _ _ _)
      | (with_reducible exact LeO.refl _)
      | (with_reducible exact LeO.none _)
      | (with_reducible refine LeO.ite ?_ ?_)
      | (with_reducible refine LeO.bind ?_ (fun _ => ?_))
      | exact ih0 _ _ _ _ _ _ _
      | exact ih1 _ _ _ _ _ _ _
      | exact ih2 _ _ _ _ _ _ _ _
      | exact ih3 _ _ _ _ _ _ _
      | exact ih4 _ _ _ _ _ _
      | exact ih5 _ _ _ _ _ _ _
      | exact culletlaw16_awake.mono _
      | exact culletlaw16_great.mono _ _ _ _ _ _ _ _ _
      | exact culletlaw16_sameBytes.mono _ _ _
      | exact shape_Join.mono _ _ _ _ _ _
      | exact shape_Length.mono _ _ _ _ _
      | exact shape_Split.mono _ _ _ _ _
      | exact shape_Whole.mono _ _ _ _ _
      | exact LeO.none _
      | refine LeO.ite ?_ ?_
      | refine LeO.bind ?_ (fun _ => ?_)
set_option maxHeartbeats 8000000 in
set_option maxRecDepth 100000 in
theorem culletlaw16_ShapeBack.calls (k : Nat) (a0_0 : Int) (a0_1 : Int) (a0_2 : Int) (A1 : Option Addr) (c1 : Nat) (l1 : List Int) (r : Bool) (w : World) (hr1 : Kd.C (Kd.int .u8) w A1 l1.length l1) (hc1 : l1.length ≤ c1) (h : culletlaw16_ShapeBack.f k a0_0 a0_1 a0_2 l1 = some r) :
    Calls Try.prog 6 #[.agg #[.int .i64 a0_0, .int .i64 a0_1, .int .i64 a0_2], .slice A1 l1.length c1] w fun e w' => e = .returned (.bool r) ∧ Below w.heap.size w w' := by
  have hu32 := Try.underlying32
  have hu38 := Try.underlying38
  have HR1 := Z0.mk hr1
  have HC1 := Z0.mk hc1
  clear hr1 hc1
  have HB := Z0.mk (Below.refl w.heap.size w)
  have H : ((culletlaw16_awake.f k).bind fun t195 => (if t195 = true then ((culletlaw16_great.f k 0 a0_0 a0_1 a0_2 0 ([] : List (List Int)) ([] : List (List Int)) l1).bind fun t196 => (if t196 = true then (some true) else ((shape_Length.f k a0_0 a0_1 a0_2 (l1.length : Int)).bind fun bt197 => ((some (([] : List Int) : List Int)).bind fun y199 => (if y199.length + l1.length < 140737488355328 then ((shape_Split.f k a0_0 a0_1 a0_2 (y199 ++ l1)).bind fun bt205 => (if bt197.2 = 0 then (if (wrap64 (a0_1 + a0_2)) = 0 then (none) else (if bt197.1 > (wrap64 (Int.tdiv (67108864 : Int) (wrap64 (a0_1 + a0_2)))) then (if bt205.2 = 5 then (some ((bt205.1.length : Int) == 0)) else (some false)) else ((shape_Whole.f k a0_0 a0_1 a0_2 bt205.1).bind fun bt209 => (if bt205.2 = 0 then (if bt209.2 = 0 then (if bt209.1 = bt197.1 then (culletlaw16_ShapeBack.j0 k l1 a0_0 a0_1 a0_2 bt197.1 bt205.1 ((bt205.1.length : Int) != (wrap64 (a0_1 + a0_2)))) else (culletlaw16_ShapeBack.j0 k l1 a0_0 a0_1 a0_2 bt197.1 bt205.1 true)) else (culletlaw16_ShapeBack.j0 k l1 a0_0 a0_1 a0_2 bt197.1 bt205.1 true)) else (culletlaw16_ShapeBack.j0 k l1 a0_0 a0_1 a0_2 bt197.1 bt205.1 true))))) else (if bt205.2 = bt197.2 then (some ((bt205.1.length : Int) == 0)) else (some false)))) else (none)))))) else (some false))) = some r := h
  clear h
  replace H := Option.bind_eq_some_iff.mp H
  obtain ⟨t195, A30, H⟩ := H
  try dsimp only at H
  have A3 := Z0.mk A30
  clear A30
  by_cases c4 : t195 = true
  · subst c4
    have H1 : ((culletlaw16_great.f k 0 a0_0 a0_1 a0_2 0 ([] : List (List Int)) ([] : List (List Int)) l1).bind fun t196 => (if t196 = true then (some true) else ((shape_Length.f k a0_0 a0_1 a0_2 (l1.length : Int)).bind fun bt197 => ((some (([] : List Int) : List Int)).bind fun y199 => (if y199.length + l1.length < 140737488355328 then ((shape_Split.f k a0_0 a0_1 a0_2 (y199 ++ l1)).bind fun bt205 => (if bt197.2 = 0 then (if (wrap64 (a0_1 + a0_2)) = 0 then (none) else (if bt197.1 > (wrap64 (Int.tdiv (67108864 : Int) (wrap64 (a0_1 + a0_2)))) then (if bt205.2 = 5 then (some ((bt205.1.length : Int) == 0)) else (some false)) else ((shape_Whole.f k a0_0 a0_1 a0_2 bt205.1).bind fun bt209 => (if bt205.2 = 0 then (if bt209.2 = 0 then (if bt209.1 = bt197.1 then (culletlaw16_ShapeBack.j0 k l1 a0_0 a0_1 a0_2 bt197.1 bt205.1 ((bt205.1.length : Int) != (wrap64 (a0_1 + a0_2)))) else (culletlaw16_ShapeBack.j0 k l1 a0_0 a0_1 a0_2 bt197.1 bt205.1 true)) else (culletlaw16_ShapeBack.j0 k l1 a0_0 a0_1 a0_2 bt197.1 bt205.1 true)) else (culletlaw16_ShapeBack.j0 k l1 a0_0 a0_1 a0_2 bt197.1 bt205.1 true))))) else (if bt205.2 = bt197.2 then (some ((bt205.1.length : Int) == 0)) else (some false)))) else (none)))))) = some r := by rw [if_pos rfl] at H; exact H
    clear H
    have H := H1
    clear H1
    replace H := Option.bind_eq_some_iff.mp H
    obtain ⟨t196, A50, H⟩ := H
    try dsimp only at H
    have A5 := Z0.mk A50
    clear A50
    by_cases c6 : t196 = true
    · subst c6
      have H1 : (some true) = some r := by rw [if_pos rfl] at H; exact H
      clear H
      have H := H1
      clear H1
      obtain rfl := Option.some.inj H
      go_enter Try.func6, Try.ntmps6
      go_wp2_with (first | ((with_reducible refine gate_dst (N := 2) rfl ?_); (try (refine gate_guard (by rfl) ?_; dsimp only)); refine box_event ?hg (N := 2) ?hd (cs := #[.int .i64 a0_0, .int .i64 a0_1, .int .i64 a0_2]) (t := 32) ?hr ?_; (case hd => rfl); (case hg => rfl); (case hr => first | (go_simp; done) | (go_simp; rfl)); intro gb194 hg w7 hbox hb; have n0_ := Z0.mk (bwT (by repeat (first | (with_reducible first | exact HB.out | apply bwA | apply bwN | apply bw1) | exact HB.out)) hb); have n1_ := Z0.mk (hbox); have n2_ := Z0.mk ((by rw [hg]; exact (bwZ (by repeat (first | (with_reducible first | exact HB.out | apply bwA | apply bwN | apply bw1) | exact HB.out))) : w.heap.size ≤ gb194)); have n3_ := Z0.mk ((by rw [hg]; exact (bwZ (by repeat (first | (with_reducible first | exact HB.out | apply bwA | apply bwN | apply bw1) | exact HB.out))) : w.heap.size ≤ gb194)); clear HB; have HB := n0_; have BK194 := n1_; have GW194 := n2_; have GE194 := n3_; clear n0_ n1_ n2_ n3_; clear hb hbox hg) | (go_at_call 13; (with_reducible refine (culletlaw16_awake.calls k  true _ A3.out).mono ?_); rintro e w8 ⟨rfl, hb⟩; have n0_ := Z0.mk (bkB (g := gb194) (o := .cells #[.int .i64 a0_0, .int .i64 a0_1, .int .i64 a0_2] 32 (0, 0)) (by (with_reducible repeat (first | refine bkN ?_ _ | refine bkD ?_ | refine bkA ?_ _)); exact BK194.out) hb); have n1_ := Z0.mk (bwT (by repeat (first | (with_reducible first | exact HB.out | apply bwA | apply bwN | apply bw1 | refine bwS ?_ GE194.out) | exact HB.out)) hb); clear BK194; clear HB; have BK194 := n0_; have HB := n1_; clear n0_ n1_; (try clear hb); (try clear hb2); (try clear hk); (try clear hi); have hcz9_0 : w8.cell? ⟨gb194, 0, none⟩ = some (.int .i64 a0_0) := (bkC BK194.out 0).trans rfl; have hcz9_1 : w8.cell? ⟨gb194, 1, none⟩ = some (.int .i64 a0_1) := (bkC BK194.out 1).trans rfl; have hcz9_2 : w8.cell? ⟨gb194, 2, none⟩ = some (.int .i64 a0_2) := (bkC BK194.out 2).trans rfl; have hfz9_0 := bkF BK194.out 0; have hfz9_1 := bkF BK194.out 1; have hfz9_2 := bkF BK194.out 2) | (go_at_call 16; (refine (culletlaw16_great.calls k 0 a0_0 a0_1 a0_2 0 _ _ ([] : List (List Int)) _ _ ([] : List (List Int)) _ _ l1 true _ ?side1 ?side2 ?side3 ?side4 ?side5 ?side6 A5.out).mono ?_); (case side1 => exact Kd.C_nil _ _); (case side2 => exact Nat.le_refl _); (case side3 => exact Kd.C_nil _ _); (case side4 => exact Nat.le_refl _); (case side5 => repeat (first | exact (Kd.C_below HR1.out HB.out) | (with_reducible refine Kd.C_alloc ?_ _) | (with_reducible refine Kd.C_drewN ?_ _) | (with_reducible refine Kd.C_drew ?_))); (case side6 => exact HC1.out); rintro e w10 ⟨rfl, hb⟩; have n0_ := Z0.mk (bkB (g := gb194) (o := .cells #[.int .i64 a0_0, .int .i64 a0_1, .int .i64 a0_2] 32 (0, 0)) (by (with_reducible repeat (first | refine bkN ?_ _ | refine bkD ?_ | refine bkA ?_ _)); exact BK194.out) hb); have n1_ := Z0.mk (bwT (by repeat (first | (with_reducible first | exact HB.out | apply bwA | apply bwN | apply bw1 | refine bwS ?_ GE194.out) | exact HB.out)) hb); clear BK194; clear HB; have BK194 := n0_; have HB := n1_; clear n0_ n1_; (try clear hb); (try clear hb2); (try clear hk); (try clear hi)))
      repeat (go_quiet (first | ((with_reducible refine gate_dst (N := 2) rfl ?_); (try (refine gate_guard (by rfl) ?_; dsimp only)); refine box_event ?hg (N := 2) ?hd (cs := #[.int .i64 a0_0, .int .i64 a0_1, .int .i64 a0_2]) (t := 32) ?hr ?_; (case hd => rfl); (case hg => rfl); (case hr => first | (go_simp; done) | (go_simp; rfl)); intro gb194 hg w7 hbox hb; have n0_ := Z0.mk (bwT (by repeat (first | (with_reducible first | exact HB.out | apply bwA | apply bwN | apply bw1) | exact HB.out)) hb); have n1_ := Z0.mk (hbox); have n2_ := Z0.mk ((by rw [hg]; exact (bwZ (by repeat (first | (with_reducible first | exact HB.out | apply bwA | apply bwN | apply bw1) | exact HB.out))) : w.heap.size ≤ gb194)); have n3_ := Z0.mk ((by rw [hg]; exact (bwZ (by repeat (first | (with_reducible first | exact HB.out | apply bwA | apply bwN | apply bw1) | exact HB.out))) : w.heap.size ≤ gb194)); clear HB; have HB := n0_; have BK194 := n1_; have GW194 := n2_; have GE194 := n3_; clear n0_ n1_ n2_ n3_; clear hb hbox hg) | (go_at_call 13; (with_reducible refine (culletlaw16_awake.calls k  true _ A3.out).mono ?_); rintro e w8 ⟨rfl, hb⟩; have n0_ := Z0.mk (bkB (g := gb194) (o := .cells #[.int .i64 a0_0, .int .i64 a0_1, .int .i64 a0_2] 32 (0, 0)) (by (with_reducible repeat (first | refine bkN ?_ _ | refine bkD ?_ | refine bkA ?_ _)); exact BK194.out) hb); have n1_ := Z0.mk (bwT (by repeat (first | (with_reducible first | exact HB.out | apply bwA | apply bwN | apply bw1 | refine bwS ?_ GE194.out) | exact HB.out)) hb); clear BK194; clear HB; have BK194 := n0_; have HB := n1_; clear n0_ n1_; (try clear hb); (try clear hb2); (try clear hk); (try clear hi); have hcz9_0 : w8.cell? ⟨gb194, 0, none⟩ = some (.int .i64 a0_0) := (bkC BK194.out 0).trans rfl; have hcz9_1 : w8.cell? ⟨gb194, 1, none⟩ = some (.int .i64 a0_1) := (bkC BK194.out 1).trans rfl; have hcz9_2 : w8.cell? ⟨gb194, 2, none⟩ = some (.int .i64 a0_2) := (bkC BK194.out 2).trans rfl; have hfz9_0 := bkF BK194.out 0; have hfz9_1 := bkF BK194.out 1; have hfz9_2 := bkF BK194.out 2) | (go_at_call 16; (refine (culletlaw16_great.calls k 0 a0_0 a0_1 a0_2 0 _ _ ([] : List (List Int)) _ _ ([] : List (List Int)) _ _ l1 true _ ?side1 ?side2 ?side3 ?side4 ?side5 ?side6 A5.out).mono ?_); (case side1 => exact Kd.C_nil _ _); (case side2 => exact Nat.le_refl _); (case side3 => exact Kd.C_nil _ _); (case side4 => exact Nat.le_refl _); (case side5 => repeat (first | exact (Kd.C_below HR1.out HB.out) | (with_reducible refine Kd.C_alloc ?_ _) | (with_reducible refine Kd.C_drewN ?_ _) | (with_reducible refine Kd.C_drew ?_))); (case side6 => exact HC1.out); rintro e w10 ⟨rfl, hb⟩; have n0_ := Z0.mk (bkB (g := gb194) (o := .cells #[.int .i64 a0_0, .int .i64 a0_1, .int .i64 a0_2] 32 (0, 0)) (by (with_reducible repeat (first | refine bkN ?_ _ | refine bkD ?_ | refine bkA ?_ _)); exact BK194.out) hb); have n1_ := Z0.mk (bwT (by repeat (first | (with_reducible first | exact HB.out | apply bwA | apply bwN | apply bw1 | refine bwS ?_ GE194.out) | exact HB.out)) hb); clear BK194; clear HB; have BK194 := n0_; have HB := n1_; clear n0_ n1_; (try clear hb); (try clear hb2); (try clear hk); (try clear hi))); try go_wp2_with (first | ((with_reducible refine gate_dst (N := 2) rfl ?_); (try (refine gate_guard (by rfl) ?_; dsimp only)); refine box_event ?hg (N := 2) ?hd (cs := #[.int .i64 a0_0, .int .i64 a0_1, .int .i64 a0_2]) (t := 32) ?hr ?_; (case hd => rfl); (case hg => rfl); (case hr => first | (go_simp; done) | (go_simp; rfl)); intro gb194 hg w7 hbox hb; have n0_ := Z0.mk (bwT (by repeat (first | (with_reducible first | exact HB.out | apply bwA | apply bwN | apply bw1) | exact HB.out)) hb); have n1_ := Z0.mk (hbox); have n2_ := Z0.mk ((by rw [hg]; exact (bwZ (by repeat (first | (with_reducible first | exact HB.out | apply bwA | apply bwN | apply bw1) | exact HB.out))) : w.heap.size ≤ gb194)); have n3_ := Z0.mk ((by rw [hg]; exact (bwZ (by repeat (first | (with_reducible first | exact HB.out | apply bwA | apply bwN | apply bw1) | exact HB.out))) : w.heap.size ≤ gb194)); clear HB; have HB := n0_; have BK194 := n1_; have GW194 := n2_; have GE194 := n3_; clear n0_ n1_ n2_ n3_; clear hb hbox hg) | (go_at_call 13; (with_reducible refine (culletlaw16_awake.calls k  true _ A3.out).mono ?_); rintro e w8 ⟨rfl, hb⟩; have n0_ := Z0.mk (bkB (g := gb194) (o := .cells #[.int .i64 a0_0, .int .i64 a0_1, .int .i64 a0_2] 32 (0, 0)) (by (with_reducible repeat (first | refine bkN ?_ _ | refine bkD ?_ | refine bkA ?_ _)); exact BK194.out) hb); have n1_ := Z0.mk (bwT (by repeat (first | (with_reducible first | exact HB.out | apply bwA | apply bwN | apply bw1 | refine bwS ?_ GE194.out) | exact HB.out)) hb); clear BK194; clear HB; have BK194 := n0_; have HB := n1_; clear n0_ n1_; (try clear hb); (try clear hb2); (try clear hk); (try clear hi); have hcz9_0 : w8.cell? ⟨gb194, 0, none⟩ = some (.int .i64 a0_0) := (bkC BK194.out 0).trans rfl; have hcz9_1 : w8.cell? ⟨gb194, 1, none⟩ = some (.int .i64 a0_1) := (bkC BK194.out 1).trans rfl; have hcz9_2 : w8.cell? ⟨gb194, 2, none⟩ = some (.int .i64 a0_2) := (bkC BK194.out 2).trans rfl; have hfz9_0 := bkF BK194.out 0; have hfz9_1 := bkF BK194.out 1; have hfz9_2 := bkF BK194.out 2) | (go_at_call 16; (refine (culletlaw16_great.calls k 0 a0_0 a0_1 a0_2 0 _ _ ([] : List (List Int)) _ _ ([] : List (List Int)) _ _ l1 true _ ?side1 ?side2 ?side3 ?side4 ?side5 ?side6 A5.out).mono ?_); (case side1 => exact Kd.C_nil _ _); (case side2 => exact Nat.le_refl _); (case side3 => exact Kd.C_nil _ _); (case side4 => exact Nat.le_refl _); (case side5 => repeat (first | exact (Kd.C_below HR1.out HB.out) | (with_reducible refine Kd.C_alloc ?_ _) | (with_reducible refine Kd.C_drewN ?_ _) | (with_reducible refine Kd.C_drew ?_))); (case side6 => exact HC1.out); rintro e w10 ⟨rfl, hb⟩; have n0_ := Z0.mk (bkB (g := gb194) (o := .cells #[.int .i64 a0_0, .int .i64 a0_1, .int .i64 a0_2] 32 (0, 0)) (by (with_reducible repeat (first | refine bkN ?_ _ | refine bkD ?_ | refine bkA ?_ _)); exact BK194.out) hb); have n1_ := Z0.mk (bwT (by repeat (first | (with_reducible first | exact HB.out | apply bwA | apply bwN | apply bw1 | refine bwS ?_ GE194.out) | exact HB.out)) hb); clear BK194; clear HB; have BK194 := n0_; have HB := n1_; clear n0_ n1_; (try clear hb); (try clear hb2); (try clear hk); (try clear hi))))
      go_ret
      exact ⟨by first | rfl | (simp [ewN, ewS] <;> rfl) | (simp [*, ewN, ewS] <;> rfl), by repeat (first | (with_reducible first | exact HB.out | apply bwA | apply bwN | apply bw1 | refine bwS ?_ GE194.out) | exact HB.out)⟩
    · replace c6 := Bool.eq_false_iff.mpr c6
      subst c6
      have H1 : ((shape_Length.f k a0_0 a0_1 a0_2 (l1.length : Int)).bind fun bt197 => ((some (([] : List Int) : List Int)).bind fun y199 => (if y199.length + l1.length < 140737488355328 then ((shape_Split.f k a0_0 a0_1 a0_2 (y199 ++ l1)).bind fun bt205 => (if bt197.2 = 0 then (if (wrap64 (a0_1 + a0_2)) = 0 then (none) else (if bt197.1 > (wrap64 (Int.tdiv (67108864 : Int) (wrap64 (a0_1 + a0_2)))) then (if bt205.2 = 5 then (some ((bt205.1.length : Int) == 0)) else (some false)) else ((shape_Whole.f k a0_0 a0_1 a0_2 bt205.1).bind fun bt209 => (if bt205.2 = 0 then (if bt209.2 = 0 then (if bt209.1 = bt197.1 then (culletlaw16_ShapeBack.j0 k l1 a0_0 a0_1 a0_2 bt197.1 bt205.1 ((bt205.1.length : Int) != (wrap64 (a0_1 + a0_2)))) else (culletlaw16_ShapeBack.j0 k l1 a0_0 a0_1 a0_2 bt197.1 bt205.1 true)) else (culletlaw16_ShapeBack.j0 k l1 a0_0 a0_1 a0_2 bt197.1 bt205.1 true)) else (culletlaw16_ShapeBack.j0 k l1 a0_0 a0_1 a0_2 bt197.1 bt205.1 true))))) else (if bt205.2 = bt197.2 then (some ((bt205.1.length : Int) == 0)) else (some false)))) else (none)))) = some r := by rw [if_neg (show ¬ (false = true) by decide)] at H; exact H
      clear H
      have H := H1
      clear H1
      replace H := Option.bind_eq_some_iff.mp H
      obtain ⟨⟨t197, t198⟩, A110, H⟩ := H
      dsimp only at H
      have A11 := Z0.mk A110
      clear A110
      obtain ⟨y199, hy199⟩ : ∃ y_ : List Int, y_ = (([] : List Int)) := ⟨_, rfl⟩
      replace H : (if y199.length + l1.length < 140737488355328 then ((shape_Split.f k a0_0 a0_1 a0_2 (y199 ++ l1)).bind fun bt205 => (if t198 = 0 then (if (wrap64 (a0_1 + a0_2)) = 0 then (none) else (if t197 > (wrap64 (Int.tdiv (67108864 : Int) (wrap64 (a0_1 + a0_2)))) then (if bt205.2 = 5 then (some ((bt205.1.length : Int) == 0)) else (some false)) else ((shape_Whole.f k a0_0 a0_1 a0_2 bt205.1).bind fun bt209 => (if bt205.2 = 0 then (if bt209.2 = 0 then (if bt209.1 = t197 then (culletlaw16_ShapeBack.j0 k l1 a0_0 a0_1 a0_2 t197 bt205.1 ((bt205.1.length : Int) != (wrap64 (a0_1 + a0_2)))) else (culletlaw16_ShapeBack.j0 k l1 a0_0 a0_1 a0_2 t197 bt205.1 true)) else (culletlaw16_ShapeBack.j0 k l1 a0_0 a0_1 a0_2 t197 bt205.1 true)) else (culletlaw16_ShapeBack.j0 k l1 a0_0 a0_1 a0_2 t197 bt205.1 true))))) else (if bt205.2 = t198 then (some ((bt205.1.length : Int) == 0)) else (some false)))) else (none)) = some r := by first | (rw [hy199]; with_reducible exact H) | (have H2_ := (Option.bind_some _ _).symm.trans H; rw [hy199]; with_reducible exact H2_) | (have H2_ := (Option.bind_some _ _).symm.trans H; with_reducible exact H2_) | with_reducible exact H | (rw [hy199]; exact H) | exact H
      have Ny199 := Z0.mk hy199
      clear hy199
      by_cases c12 : y199.length + l1.length < 140737488355328
      · rw [if_pos c12] at H
        have LMc12 := Z0.mk c12
        clear c12
        obtain ⟨y202, hy202⟩ : ∃ y_ : List Int, y_ = (y199 ++ l1) := ⟨_, rfl⟩
        replace H : ((shape_Split.f k a0_0 a0_1 a0_2 y202).bind fun bt205 => (if t198 = 0 then (if (wrap64 (a0_1 + a0_2)) = 0 then (none) else (if t197 > (wrap64 (Int.tdiv (67108864 : Int) (wrap64 (a0_1 + a0_2)))) then (if bt205.2 = 5 then (some ((bt205.1.length : Int) == 0)) else (some false)) else ((shape_Whole.f k a0_0 a0_1 a0_2 bt205.1).bind fun bt209 => (if bt205.2 = 0 then (if bt209.2 = 0 then (if bt209.1 = t197 then (culletlaw16_ShapeBack.j0 k l1 a0_0 a0_1 a0_2 t197 bt205.1 ((bt205.1.length : Int) != (wrap64 (a0_1 + a0_2)))) else (culletlaw16_ShapeBack.j0 k l1 a0_0 a0_1 a0_2 t197 bt205.1 true)) else (culletlaw16_ShapeBack.j0 k l1 a0_0 a0_1 a0_2 t197 bt205.1 true)) else (culletlaw16_ShapeBack.j0 k l1 a0_0 a0_1 a0_2 t197 bt205.1 true))))) else (if bt205.2 = t198 then (some ((bt205.1.length : Int) == 0)) else (some false)))) = some r := by first | (rw [hy202]; with_reducible exact H) | (have H2_ := (Option.bind_some _ _).symm.trans H; rw [hy202]; with_reducible exact H2_) | (have H2_ := (Option.bind_some _ _).symm.trans H; with_reducible exact H2_) | with_reducible exact H | (rw [hy202]; exact H) | exact H
        have Ny202 := Z0.mk hy202
        clear hy202
        replace H := Option.bind_eq_some_iff.mp H
        obtain ⟨⟨t205, t206⟩, A130, H⟩ := H
        dsimp only at H
        have A13 := Z0.mk A130
        clear A130
        by_cases c14 : t198 = 0
        · rw [if_pos c14] at H
          have c14b0 : (t198 == 0) = true := beq_iff_eq.mpr c14
          have c14b1 : (t198 != 0) = false := bne_eq_false_iff_eq.mpr c14
          clear c14
          by_cases c15 : (wrap64 (a0_1 + a0_2)) = 0
          · rw [if_pos c15] at H
            exact absurd H (by simp)
          · rw [if_neg c15] at H
            have c15b0 : ((wrap64 (a0_1 + a0_2)) == 0) = false := beq_eq_false_iff_ne.mpr c15
            have c15b1 : ((wrap64 (a0_1 + a0_2)) != 0) = true := bne_iff_ne.mpr c15
            by_cases c16 : t197 > (wrap64 (Int.tdiv (67108864 : Int) (wrap64 (a0_1 + a0_2))))
            · rw [if_pos c16] at H
              have c16b0 : decide ((wrap64 (Int.tdiv (67108864 : Int) (wrap64 (a0_1 + a0_2)))) < t197) = true := decide_eq_true c16
              clear c16
              by_cases c17 : t206 = 5
              · rw [if_pos c17] at H
                have c17b0 : (t206 == 5) = true := beq_iff_eq.mpr c17
                have c17b1 : (t206 != 5) = false := bne_eq_false_iff_eq.mpr c17
                clear c17
                obtain rfl := Option.some.inj H
                go_enter Try.func6, Try.ntmps6
                go_wp2_with (first | ((with_reducible refine gate_dst (N := 2) rfl ?_); (try (refine gate_guard (by rfl) ?_; dsimp only)); refine box_event ?hg (N := 2) ?hd (cs := #[.int .i64 a0_0, .int .i64 a0_1, .int .i64 a0_2]) (t := 32) ?hr ?_; (case hd => rfl); (case hg => rfl); (case hr => first | (go_simp; done) | (go_simp; rfl)); intro gb194 hg w18 hbox hb; have n0_ := Z0.mk (bwT (by repeat (first | (with_reducible first | exact HB.out | apply bwA | apply bwN | apply bw1) | exact HB.out)) hb); have n1_ := Z0.mk (hbox); have n2_ := Z0.mk ((by rw [hg]; exact (bwZ (by repeat (first | (with_reducible first | exact HB.out | apply bwA | apply bwN | apply bw1) | exact HB.out))) : w.heap.size ≤ gb194)); have n3_ := Z0.mk ((by rw [hg]; exact (bwZ (by repeat (first | (with_reducible first | exact HB.out | apply bwA | apply bwN | apply bw1) | exact HB.out))) : w.heap.size ≤ gb194)); clear HB; have HB := n0_; have BK194 := n1_; have GW194 := n2_; have GE194 := n3_; clear n0_ n1_ n2_ n3_; clear hb hbox hg) | (go_at_call 13; (with_reducible refine (culletlaw16_awake.calls k  true _ A3.out).mono ?_); rintro e w19 ⟨rfl, hb⟩; have n0_ := Z0.mk (bkB (g := gb194) (o := .cells #[.int .i64 a0_0, .int .i64 a0_1, .int .i64 a0_2] 32 (0, 0)) (by (with_reducible repeat (first | refine bkN ?_ _ | refine bkD ?_ | refine bkA ?_ _)); exact BK194.out) hb); have n1_ := Z0.mk (bwT (by repeat (first | (with_reducible first | exact HB.out | apply bwA | apply bwN | apply bw1 | refine bwS ?_ GE194.out) | exact HB.out)) hb); clear BK194; clear HB; have BK194 := n0_; have HB := n1_; clear n0_ n1_; (try clear hb); (try clear hb2); (try clear hk); (try clear hi); have hcz20_0 : w19.cell? ⟨gb194, 0, none⟩ = some (.int .i64 a0_0) := (bkC BK194.out 0).trans rfl; have hcz20_1 : w19.cell? ⟨gb194, 1, none⟩ = some (.int .i64 a0_1) := (bkC BK194.out 1).trans rfl; have hcz20_2 : w19.cell? ⟨gb194, 2, none⟩ = some (.int .i64 a0_2) := (bkC BK194.out 2).trans rfl; have hfz20_0 := bkF BK194.out 0; have hfz20_1 := bkF BK194.out 1; have hfz20_2 := bkF BK194.out 2) | (go_at_call 16; (refine (culletlaw16_great.calls k 0 a0_0 a0_1 a0_2 0 _ _ ([] : List (List Int)) _ _ ([] : List (List Int)) _ _ l1 false _ ?side1 ?side2 ?side3 ?side4 ?side5 ?side6 A5.out).mono ?_); (case side1 => exact Kd.C_nil _ _); (case side2 => exact Nat.le_refl _); (case side3 => exact Kd.C_nil _ _); (case side4 => exact Nat.le_refl _); (case side5 => repeat (first | exact (Kd.C_below HR1.out HB.out) | (with_reducible refine Kd.C_alloc ?_ _) | (with_reducible refine Kd.C_drewN ?_ _) | (with_reducible refine Kd.C_drew ?_))); (case side6 => exact HC1.out); rintro e w21 ⟨rfl, hb⟩; have n0_ := Z0.mk (bkB (g := gb194) (o := .cells #[.int .i64 a0_0, .int .i64 a0_1, .int .i64 a0_2] 32 (0, 0)) (by (with_reducible repeat (first | refine bkN ?_ _ | refine bkD ?_ | refine bkA ?_ _)); exact BK194.out) hb); have n1_ := Z0.mk (bwT (by repeat (first | (with_reducible first | exact HB.out | apply bwA | apply bwN | apply bw1 | refine bwS ?_ GE194.out) | exact HB.out)) hb); clear BK194; clear HB; have BK194 := n0_; have HB := n1_; clear n0_ n1_; (try clear hb); (try clear hb2); (try clear hk); (try clear hi)) | (go_at_call 15; (with_reducible refine (shape_Length.calls k a0_0 a0_1 a0_2 (l1.length : Int) t197 t198 _ A11.out).mono ?_); rintro e w' ⟨rfl, ⟨nd, rfl⟩⟩; (try first | exact ⟨rfl, _, World.drewN_drewN _ _ _⟩ | exact ⟨rfl, _, Eq.trans (World.drewN_drewN _ _ _) (congrArg (World.drewN _) (Nat.add_assoc _ _ _))⟩)) | ((with_reducible refine gate_dst (N := 46) rfl ?_); (try (refine gate_guard (by rfl) ?_; dsimp only)); refine Kd.R_lit (Kd.int .u8) _ 5 ?hg (N := 46) ?hd (xs := ([] : List Int)) (inner := []) (ok := fun _ => True) (okp := fun _ => True) ?hr ?hp (fun _ hk => hk) trivial (Below.refl _ _) (Nat.le_refl _) (by simp) ?_; (case hd => rfl); (case hg => rfl); (case hr => first | (go_simp; done) | (go_simp; rfl)); (case hp => exact (Reps.none _ _)); intro v200 w22 ho23 hb hg_ hnew_; clear hg_ hnew_; (first | rw [← Ny199.out] at ho23 | (simp only [Int.reduceToNat] at ho23; rw [← Ny199.out] at ho23)); have n0_ := Z0.mk (Kd.R_lower ho23 (bwZ (by repeat (first | (with_reducible first | exact HB.out | apply bwA | apply bwN | apply bw1 | refine bwS ?_ GE194.out) | exact HB.out)))); have n1_ := Z0.mk (bkB (g := gb194) (o := .cells #[.int .i64 a0_0, .int .i64 a0_1, .int .i64 a0_2] 32 (0, 0)) (by (with_reducible repeat (first | refine bkN ?_ _ | refine bkD ?_ | refine bkA ?_ _)); exact BK194.out) hb); have n2_ := Z0.mk (bwT (by repeat (first | (with_reducible first | exact HB.out | apply bwA | apply bwN | apply bw1 | refine bwS ?_ GE194.out) | exact HB.out)) hb); clear BK194; clear HB; have HO201 := n0_; have BK194 := n1_; have HB := n2_; clear n0_ n1_ n2_; clear hb ho23) | ((with_reducible refine gate_builtin (b := .append) (xs := #[.tmp 46, .tmp 47]) rfl ?_); (try (refine gate_guard (by rfl) ?_; dsimp only)); at_builtin; refine Kd.R_append_rows (Kd.int .u8) (w0 := w) w.heap.size rfl (.tmp 46) (.tmp 47) 27 5 (.int .u8 0) 1 rfl Try.underlying27 info5 rfl (by decide) (by omega) v200 y199 l1 _ _ _ (fun _ => True) (fun _ => False) rfl rfl ?aO ?aR (fun _ _ h => h) (fun _ h => h.elim) ?aF ?aB ?aS ?aL ?_; (case aR => repeat (first | exact (Kd.C_below HR1.out HB.out) | (with_reducible refine Kd.C_alloc ?_ _) | (with_reducible refine Kd.C_drewN ?_ _) | (with_reducible refine Kd.C_drew ?_))); (case aB => exact (by repeat (first | (with_reducible first | exact HB.out | apply bwA | apply bwN | apply bw1 | refine bwS ?_ GE194.out) | exact HB.out))); (case aF => exact (fun _ _ => trivial)); (case aO => exact (by (with_reducible repeat (first | apply Kd.R_alloc | apply Kd.R_drewN | apply Kd.R_drew)); exact HO201.out)); (case aS => exact (bwZ (by repeat (first | (with_reducible first | exact HB.out | apply bwA | apply bwN | apply bw1 | refine bwS ?_ GE194.out) | exact HB.out)))); (case aL => have := LMc12.out; omega); intro v203 w24 ho hb hg hat; rw [← Ny202.out] at ho; have n0_ := Z0.mk (blk_grown (g := gb194) (o := .cells #[.int .i64 a0_0, .int .i64 a0_1, .int .i64 a0_2] 32 (0, 0)) (by (with_reducible repeat (first | refine bkN ?_ _ | refine bkD ?_ | refine bkA ?_ _)); exact BK194.out) hg (Kd.R_ne HO201.out BK194.out (by decide))); have n1_ := Z0.mk (hb); have n2_ := Z0.mk (ho); clear BK194; clear HB; clear HO201; have BK194 := n0_; have HB := n1_; have HO204 := n2_; clear n0_ n1_ n2_; clear ho hb hg hat; obtain ⟨Ao25, co25, eo25⟩ := Kd.R_slice HO204.out; subst eo25) | (go_at_call 12; (with_reducible refine (shape_Split.calls k a0_0 a0_1 a0_2 _ _ y202 t205 t206 _ ?side1 ?side2 A13.out).mono ?_); (case side1 => repeat (first | exact (Kd.R_reads' HO204.out).2.2 | (with_reducible refine Kd.C_alloc ?_ _) | (with_reducible refine Kd.C_drewN ?_ _) | (with_reducible refine Kd.C_drew ?_))); (case side2 => exact (Kd.R_reads' HO204.out).2.1); rintro e w26 ⟨v207, rfl, ho0, hb⟩; have n0_ := Z0.mk (Kd.R_below (by (with_reducible repeat (first | apply Kd.R_alloc | apply Kd.R_drewN | apply Kd.R_drew)); exact HO204.out) hb); have n1_ := Z0.mk (Kd.S_lower (Kd.S_new' ho0 (Kd.R_lt (by (with_reducible repeat (first | apply Kd.R_alloc | apply Kd.R_drewN | apply Kd.R_drew)); exact HO204.out))) (bwZ (by repeat (first | (with_reducible first | exact HB.out | apply bwA | apply bwN | apply bw1 | refine bwS ?_ GE194.out) | exact HB.out)))); have n2_ := Z0.mk (bkB (g := gb194) (o := .cells #[.int .i64 a0_0, .int .i64 a0_1, .int .i64 a0_2] 32 (0, 0)) (by (with_reducible repeat (first | refine bkN ?_ _ | refine bkD ?_ | refine bkA ?_ _)); exact BK194.out) hb); have n3_ := Z0.mk (bwT (by repeat (first | (with_reducible first | exact HB.out | apply bwA | apply bwN | apply bw1 | refine bwS ?_ GE194.out) | exact HB.out)) hb); clear HO204; clear BK194; clear HB; have HO204 := n0_; have HO208 := n1_; have BK194 := n2_; have HB := n3_; clear n0_ n1_ n2_ n3_; (try clear hb); (try clear hb2); (try clear hk); (try clear hi); (try clear ho0); obtain ⟨Ao27, co27, eo27⟩ := Kd.S_slice HO208.out; subst eo27))
                repeat (go_quiet (first | ((with_reducible refine gate_dst (N := 2) rfl ?_); (try (refine gate_guard (by rfl) ?_; dsimp only)); refine box_event ?hg (N := 2) ?hd (cs := #[.int .i64 a0_0, .int .i64 a0_1, .int .i64 a0_2]) (t := 32) ?hr ?_; (case hd => rfl); (case hg => rfl); (case hr => first | (go_simp; done) | (go_simp; rfl)); intro gb194 hg w18 hbox hb; have n0_ := Z0.mk (bwT (by repeat (first | (with_reducible first | exact HB.out | apply bwA | apply bwN | apply bw1) | exact HB.out)) hb); have n1_ := Z0.mk (hbox); have n2_ := Z0.mk ((by rw [hg]; exact (bwZ (by repeat (first | (with_reducible first | exact HB.out | apply bwA | apply bwN | apply bw1) | exact HB.out))) : w.heap.size ≤ gb194)); have n3_ := Z0.mk ((by rw [hg]; exact (bwZ (by repeat (first | (with_reducible first | exact HB.out | apply bwA | apply bwN | apply bw1) | exact HB.out))) : w.heap.size ≤ gb194)); clear HB; have HB := n0_; have BK194 := n1_; have GW194 := n2_; have GE194 := n3_; clear n0_ n1_ n2_ n3_; clear hb hbox hg) | (go_at_call 13; (with_reducible refine (culletlaw16_awake.calls k  true _ A3.out).mono ?_); rintro e w19 ⟨rfl, hb⟩; have n0_ := Z0.mk (bkB (g := gb194) (o := .cells #[.int .i64 a0_0, .int .i64 a0_1, .int .i64 a0_2] 32 (0, 0)) (by (with_reducible repeat (first | refine bkN ?_ _ | refine bkD ?_ | refine bkA ?_ _)); exact BK194.out) hb); have n1_ := Z0.mk (bwT (by repeat (first | (with_reducible first | exact HB.out | apply bwA | apply bwN | apply bw1 | refine bwS ?_ GE194.out) | exact HB.out)) hb); clear BK194; clear HB; have BK194 := n0_; have HB := n1_; clear n0_ n1_; (try clear hb); (try clear hb2); (try clear hk); (try clear hi); have hcz20_0 : w19.cell? ⟨gb194, 0, none⟩ = some (.int .i64 a0_0) := (bkC BK194.out 0).trans rfl; have hcz20_1 : w19.cell? ⟨gb194, 1, none⟩ = some (.int .i64 a0_1) := (bkC BK194.out 1).trans rfl; have hcz20_2 : w19.cell? ⟨gb194, 2, none⟩ = some (.int .i64 a0_2) := (bkC BK194.out 2).trans rfl; have hfz20_0 := bkF BK194.out 0; have hfz20_1 := bkF BK194.out 1; have hfz20_2 := bkF BK194.out 2) | (go_at_call 16; (refine (culletlaw16_great.calls k 0 a0_0 a0_1 a0_2 0 _ _ ([] : List (List Int)) _ _ ([] : List (List Int)) _ _ l1 false _ ?side1 ?side2 ?side3 ?side4 ?side5 ?side6 A5.out).mono ?_); (case side1 => exact Kd.C_nil _ _); (case side2 => exact Nat.le_refl _); (case side3 => exact Kd.C_nil _ _); (case side4 => exact Nat.le_refl _); (case side5 => repeat (first | exact (Kd.C_below HR1.out HB.out) | (with_reducible refine Kd.C_alloc ?_ _) | (with_reducible refine Kd.C_drewN ?_ _) | (with_reducible refine Kd.C_drew ?_))); (case side6 => exact HC1.out); rintro e w21 ⟨rfl, hb⟩; have n0_ := Z0.mk (bkB (g := gb194) (o := .cells #[.int .i64 a0_0, .int .i64 a0_1, .int .i64 a0_2] 32 (0, 0)) (by (with_reducible repeat (first | refine bkN ?_ _ | refine bkD ?_ | refine bkA ?_ _)); exact BK194.out) hb); have n1_ := Z0.mk (bwT (by repeat (first | (with_reducible first | exact HB.out | apply bwA | apply bwN | apply bw1 | refine bwS ?_ GE194.out) | exact HB.out)) hb); clear BK194; clear HB; have BK194 := n0_; have HB := n1_; clear n0_ n1_; (try clear hb); (try clear hb2); (try clear hk); (try clear hi)) | (go_at_call 15; (with_reducible refine (shape_Length.calls k a0_0 a0_1 a0_2 (l1.length : Int) t197 t198 _ A11.out).mono ?_); rintro e w' ⟨rfl, ⟨nd, rfl⟩⟩; (try first | exact ⟨rfl, _, World.drewN_drewN _ _ _⟩ | exact ⟨rfl, _, Eq.trans (World.drewN_drewN _ _ _) (congrArg (World.drewN _) (Nat.add_assoc _ _ _))⟩)) | ((with_reducible refine gate_dst (N := 46) rfl ?_); (try (refine gate_guard (by rfl) ?_; dsimp only)); refine Kd.R_lit (Kd.int .u8) _ 5 ?hg (N := 46) ?hd (xs := ([] : List Int)) (inner := []) (ok := fun _ => True) (okp := fun _ => True) ?hr ?hp (fun _ hk => hk) trivial (Below.refl _ _) (Nat.le_refl _) (by simp) ?_; (case hd => rfl); (case hg => rfl); (case hr => first | (go_simp; done) | (go_simp; rfl)); (case hp => exact (Reps.none _ _)); intro v200 w22 ho23 hb hg_ hnew_; clear hg_ hnew_; (first | rw [← Ny199.out] at ho23 | (simp only [Int.reduceToNat] at ho23; rw [← Ny199.out] at ho23)); have n0_ := Z0.mk (Kd.R_lower ho23 (bwZ (by repeat (first | (with_reducible first | exact HB.out | apply bwA | apply bwN | apply bw1 | refine bwS ?_ GE194.out) | exact HB.out)))); have n1_ := Z0.mk (bkB (g := gb194) (o := .cells #[.int .i64 a0_0, .int .i64 a0_1, .int .i64 a0_2] 32 (0, 0)) (by (with_reducible repeat (first | refine bkN ?_ _ | refine bkD ?_ | refine bkA ?_ _)); exact BK194.out) hb); have n2_ := Z0.mk (bwT (by repeat (first | (with_reducible first | exact HB.out | apply bwA | apply bwN | apply bw1 | refine bwS ?_ GE194.out) | exact HB.out)) hb); clear BK194; clear HB; have HO201 := n0_; have BK194 := n1_; have HB := n2_; clear n0_ n1_ n2_; clear hb ho23) | ((with_reducible refine gate_builtin (b := .append) (xs := #[.tmp 46, .tmp 47]) rfl ?_); (try (refine gate_guard (by rfl) ?_; dsimp only)); at_builtin; refine Kd.R_append_rows (Kd.int .u8) (w0 := w) w.heap.size rfl (.tmp 46) (.tmp 47) 27 5 (.int .u8 0) 1 rfl Try.underlying27 info5 rfl (by decide) (by omega) v200 y199 l1 _ _ _ (fun _ => True) (fun _ => False) rfl rfl ?aO ?aR (fun _ _ h => h) (fun _ h => h.elim) ?aF ?aB ?aS ?aL ?_; (case aR => repeat (first | exact (Kd.C_below HR1.out HB.out) | (with_reducible refine Kd.C_alloc ?_ _) | (with_reducible refine Kd.C_drewN ?_ _) | (with_reducible refine Kd.C_drew ?_))); (case aB => exact (by repeat (first | (with_reducible first | exact HB.out | apply bwA | apply bwN | apply bw1 | refine bwS ?_ GE194.out) | exact HB.out))); (case aF => exact (fun _ _ => trivial)); (case aO => exact (by (with_reducible repeat (first | apply Kd.R_alloc | apply Kd.R_drewN | apply Kd.R_drew)); exact HO201.out)); (case aS => exact (bwZ (by repeat (first | (with_reducible first | exact HB.out | apply bwA | apply bwN | apply bw1 | refine bwS ?_ GE194.out) | exact HB.out)))); (case aL => have := LMc12.out; omega); intro v203 w24 ho hb hg hat; rw [← Ny202.out] at ho; have n0_ := Z0.mk (blk_grown (g := gb194) (o := .cells #[.int .i64 a0_0, .int .i64 a0_1, .int .i64 a0_2] 32 (0, 0)) (by (with_reducible repeat (first | refine bkN ?_ _ | refine bkD ?_ | refine bkA ?_ _)); exact BK194.out) hg (Kd.R_ne HO201.out BK194.out (by decide))); have n1_ := Z0.mk (hb); have n2_ := Z0.mk (ho); clear BK194; clear HB; clear HO201; have BK194 := n0_; have HB := n1_; have HO204 := n2_; clear n0_ n1_ n2_; clear ho hb hg hat; obtain ⟨Ao25, co25, eo25⟩ := Kd.R_slice HO204.out; subst eo25) | (go_at_call 12; (with_reducible refine (shape_Split.calls k a0_0 a0_1 a0_2 _ _ y202 t205 t206 _ ?side1 ?side2 A13.out).mono ?_); (case side1 => repeat (first | exact (Kd.R_reads' HO204.out).2.2 | (with_reducible refine Kd.C_alloc ?_ _) | (with_reducible refine Kd.C_drewN ?_ _) | (with_reducible refine Kd.C_drew ?_))); (case side2 => exact (Kd.R_reads' HO204.out).2.1); rintro e w26 ⟨v207, rfl, ho0, hb⟩; have n0_ := Z0.mk (Kd.R_below (by (with_reducible repeat (first | apply Kd.R_alloc | apply Kd.R_drewN | apply Kd.R_drew)); exact HO204.out) hb); have n1_ := Z0.mk (Kd.S_lower (Kd.S_new' ho0 (Kd.R_lt (by (with_reducible repeat (first | apply Kd.R_alloc | apply Kd.R_drewN | apply Kd.R_drew)); exact HO204.out))) (bwZ (by repeat (first | (with_reducible first | exact HB.out | apply bwA | apply bwN | apply bw1 | refine bwS ?_ GE194.out) | exact HB.out)))); have n2_ := Z0.mk (bkB (g := gb194) (o := .cells #[.int .i64 a0_0, .int .i64 a0_1, .int .i64 a0_2] 32 (0, 0)) (by (with_reducible repeat (first | refine bkN ?_ _ | refine bkD ?_ | refine bkA ?_ _)); exact BK194.out) hb); have n3_ := Z0.mk (bwT (by repeat (first | (with_reducible first | exact HB.out | apply bwA | apply bwN | apply bw1 | refine bwS ?_ GE194.out) | exact HB.out)) hb); clear HO204; clear BK194; clear HB; have HO204 := n0_; have HO208 := n1_; have BK194 := n2_; have HB := n3_; clear n0_ n1_ n2_ n3_; (try clear hb); (try clear hb2); (try clear hk); (try clear hi); (try clear ho0); obtain ⟨Ao27, co27, eo27⟩ := Kd.S_slice HO208.out; subst eo27)); try go_wp2_with (first | ((with_reducible refine gate_dst (N := 2) rfl ?_); (try (refine gate_guard (by rfl) ?_; dsimp only)); refine box_event ?hg (N := 2) ?hd (cs := #[.int .i64 a0_0, .int .i64 a0_1, .int .i64 a0_2]) (t := 32) ?hr ?_; (case hd => rfl); (case hg => rfl); (case hr => first | (go_simp; done) | (go_simp; rfl)); intro gb194 hg w18 hbox hb; have n0_ := Z0.mk (bwT (by repeat (first | (with_reducible first | exact HB.out | apply bwA | apply bwN | apply bw1) | exact HB.out)) hb); have n1_ := Z0.mk (hbox); have n2_ := Z0.mk ((by rw [hg]; exact (bwZ (by repeat (first | (with_reducible first | exact HB.out | apply bwA | apply bwN | apply bw1) | exact HB.out))) : w.heap.size ≤ gb194)); have n3_ := Z0.mk ((by rw [hg]; exact (bwZ (by repeat (first | (with_reducible first | exact HB.out | apply bwA | apply bwN | apply bw1) | exact HB.out))) : w.heap.size ≤ gb194)); clear HB; have HB := n0_; have BK194 := n1_; have GW194 := n2_; have GE194 := n3_; clear n0_ n1_ n2_ n3_; clear hb hbox hg) | (go_at_call 13; (with_reducible refine (culletlaw16_awake.calls k  true _ A3.out).mono ?_); rintro e w19 ⟨rfl, hb⟩; have n0_ := Z0.mk (bkB (g := gb194) (o := .cells #[.int .i64 a0_0, .int .i64 a0_1, .int .i64 a0_2] 32 (0, 0)) (by (with_reducible repeat (first | refine bkN ?_ _ | refine bkD ?_ | refine bkA ?_ _)); exact BK194.out) hb); have n1_ := Z0.mk (bwT (by repeat (first | (with_reducible first | exact HB.out | apply bwA | apply bwN | apply bw1 | refine bwS ?_ GE194.out) | exact HB.out)) hb); clear BK194; clear HB; have BK194 := n0_; have HB := n1_; clear n0_ n1_; (try clear hb); (try clear hb2); (try clear hk); (try clear hi); have hcz20_0 : w19.cell? ⟨gb194, 0, none⟩ = some (.int .i64 a0_0) := (bkC BK194.out 0).trans rfl; have hcz20_1 : w19.cell? ⟨gb194, 1, none⟩ = some (.int .i64 a0_1) := (bkC BK194.out 1).trans rfl; have hcz20_2 : w19.cell? ⟨gb194, 2, none⟩ = some (.int .i64 a0_2) := (bkC BK194.out 2).trans rfl; have hfz20_0 := bkF BK194.out 0; have hfz20_1 := bkF BK194.out 1; have hfz20_2 := bkF BK194.out 2) | (go_at_call 16; (refine (culletlaw16_great.calls k 0 a0_0 a0_1 a0_2 0 _ _ ([] : List (List Int)) _ _ ([] : List (List Int)) _ _ l1 false _ ?side1 ?side2 ?side3 ?side4 ?side5 ?side6 A5.out).mono ?_); (case side1 => exact Kd.C_nil _ _); (case side2 => exact Nat.le_refl _); (case side3 => exact Kd.C_nil _ _); (case side4 => exact Nat.le_refl _); (case side5 => repeat (first | exact (Kd.C_below HR1.out HB.out) | (with_reducible refine Kd.C_alloc ?_ _) | (with_reducible refine Kd.C_drewN ?_ _) | (with_reducible refine Kd.C_drew ?_))); (case side6 => exact HC1.out); rintro e w21 ⟨rfl, hb⟩; have n0_ := Z0.mk (bkB (g := gb194) (o := .cells #[.int .i64 a0_0, .int .i64 a0_1, .int .i64 a0_2] 32 (0, 0)) (by (with_reducible repeat (first | refine bkN ?_ _ | refine bkD ?_ | refine bkA ?_ _)); exact BK194.out) hb); have n1_ := Z0.mk (bwT (by repeat (first | (with_reducible first | exact HB.out | apply bwA | apply bwN | apply bw1 | refine bwS ?_ GE194.out) | exact HB.out)) hb); clear BK194; clear HB; have BK194 := n0_; have HB := n1_; clear n0_ n1_; (try clear hb); (try clear hb2); (try clear hk); (try clear hi)) | (go_at_call 15; (with_reducible refine (shape_Length.calls k a0_0 a0_1 a0_2 (l1.length : Int) t197 t198 _ A11.out).mono ?_); rintro e w' ⟨rfl, ⟨nd, rfl⟩⟩; (try first | exact ⟨rfl, _, World.drewN_drewN _ _ _⟩ | exact ⟨rfl, _, Eq.trans (World.drewN_drewN _ _ _) (congrArg (World.drewN _) (Nat.add_assoc _ _ _))⟩)) | ((with_reducible refine gate_dst (N := 46) rfl ?_); (try (refine gate_guard (by rfl) ?_; dsimp only)); refine Kd.R_lit (Kd.int .u8) _ 5 ?hg (N := 46) ?hd (xs := ([] : List Int)) (inner := []) (ok := fun _ => True) (okp := fun _ => True) ?hr ?hp (fun _ hk => hk) trivial (Below.refl _ _) (Nat.le_refl _) (by simp) ?_; (case hd => rfl); (case hg => rfl); (case hr => first | (go_simp; done) | (go_simp; rfl)); (case hp => exact (Reps.none _ _)); intro v200 w22 ho23 hb hg_ hnew_; clear hg_ hnew_; (first | rw [← Ny199.out] at ho23 | (simp only [Int.reduceToNat] at ho23; rw [← Ny199.out] at ho23)); have n0_ := Z0.mk (Kd.R_lower ho23 (bwZ (by repeat (first | (with_reducible first | exact HB.out | apply bwA | apply bwN | apply bw1 | refine bwS ?_ GE194.out) | exact HB.out)))); have n1_ := Z0.mk (bkB (g := gb194) (o := .cells #[.int .i64 a0_0, .int .i64 a0_1, .int .i64 a0_2] 32 (0, 0)) (by (with_reducible repeat (first | refine bkN ?_ _ | refine bkD ?_ | refine bkA ?_ _)); exact BK194.out) hb); have n2_ := Z0.mk (bwT (by repeat (first | (with_reducible first | exact HB.out | apply bwA | apply bwN | apply bw1 | refine bwS ?_ GE194.out) | exact HB.out)) hb); clear BK194; clear HB; have HO201 := n0_; have BK194 := n1_; have HB := n2_; clear n0_ n1_ n2_; clear hb ho23) | ((with_reducible refine gate_builtin (b := .append) (xs := #[.tmp 46, .tmp 47]) rfl ?_); (try (refine gate_guard (by rfl) ?_; dsimp only)); at_builtin; refine Kd.R_append_rows (Kd.int .u8) (w0 := w) w.heap.size rfl (.tmp 46) (.tmp 47) 27 5 (.int .u8 0) 1 rfl Try.underlying27 info5 rfl (by decide) (by omega) v200 y199 l1 _ _ _ (fun _ => True) (fun _ => False) rfl rfl ?aO ?aR (fun _ _ h => h) (fun _ h => h.elim) ?aF ?aB ?aS ?aL ?_; (case aR => repeat (first | exact (Kd.C_below HR1.out HB.out) | (with_reducible refine Kd.C_alloc ?_ _) | (with_reducible refine Kd.C_drewN ?_ _) | (with_reducible refine Kd.C_drew ?_))); (case aB => exact (by repeat (first | (with_reducible first | exact HB.out | apply bwA | apply bwN | apply bw1 | refine bwS ?_ GE194.out) | exact HB.out))); (case aF => exact (fun _ _ => trivial)); (case aO => exact (by (with_reducible repeat (first | apply Kd.R_alloc | apply Kd.R_drewN | apply Kd.R_drew)); exact HO201.out)); (case aS => exact (bwZ (by repeat (first | (with_reducible first | exact HB.out | apply bwA | apply bwN | apply bw1 | refine bwS ?_ GE194.out) | exact HB.out)))); (case aL => have := LMc12.out; omega); intro v203 w24 ho hb hg hat; rw [← Ny202.out] at ho; have n0_ := Z0.mk (blk_grown (g := gb194) (o := .cells #[.int .i64 a0_0, .int .i64 a0_1, .int .i64 a0_2] 32 (0, 0)) (by (with_reducible repeat (first | refine bkN ?_ _ | refine bkD ?_ | refine bkA ?_ _)); exact BK194.out) hg (Kd.R_ne HO201.out BK194.out (by decide))); have n1_ := Z0.mk (hb); have n2_ := Z0.mk (ho); clear BK194; clear HB; clear HO201; have BK194 := n0_; have HB := n1_; have HO204 := n2_; clear n0_ n1_ n2_; clear ho hb hg hat; obtain ⟨Ao25, co25, eo25⟩ := Kd.R_slice HO204.out; subst eo25) | (go_at_call 12; (with_reducible refine (shape_Split.calls k a0_0 a0_1 a0_2 _ _ y202 t205 t206 _ ?side1 ?side2 A13.out).mono ?_); (case side1 => repeat (first | exact (Kd.R_reads' HO204.out).2.2 | (with_reducible refine Kd.C_alloc ?_ _) | (with_reducible refine Kd.C_drewN ?_ _) | (with_reducible refine Kd.C_drew ?_))); (case side2 => exact (Kd.R_reads' HO204.out).2.1); rintro e w26 ⟨v207, rfl, ho0, hb⟩; have n0_ := Z0.mk (Kd.R_below (by (with_reducible repeat (first | apply Kd.R_alloc | apply Kd.R_drewN | apply Kd.R_drew)); exact HO204.out) hb); have n1_ := Z0.mk (Kd.S_lower (Kd.S_new' ho0 (Kd.R_lt (by (with_reducible repeat (first | apply Kd.R_alloc | apply Kd.R_drewN | apply Kd.R_drew)); exact HO204.out))) (bwZ (by repeat (first | (with_reducible first | exact HB.out | apply bwA | apply bwN | apply bw1 | refine bwS ?_ GE194.out) | exact HB.out)))); have n2_ := Z0.mk (bkB (g := gb194) (o := .cells #[.int .i64 a0_0, .int .i64 a0_1, .int .i64 a0_2] 32 (0, 0)) (by (with_reducible repeat (first | refine bkN ?_ _ | refine bkD ?_ | refine bkA ?_ _)); exact BK194.out) hb); have n3_ := Z0.mk (bwT (by repeat (first | (with_reducible first | exact HB.out | apply bwA | apply bwN | apply bw1 | refine bwS ?_ GE194.out) | exact HB.out)) hb); clear HO204; clear BK194; clear HB; have HO204 := n0_; have HO208 := n1_; have BK194 := n2_; have HB := n3_; clear n0_ n1_ n2_ n3_; (try clear hb); (try clear hb2); (try clear hk); (try clear hi); (try clear ho0); obtain ⟨Ao27, co27, eo27⟩ := Kd.S_slice HO208.out; subst eo27)))
                go_ret
                exact ⟨by first | rfl | (simp [ewN, ewS] <;> rfl) | (simp [*, ewN, ewS] <;> rfl), by repeat (first | (with_reducible first | exact HB.out | apply bwA | apply bwN | apply bw1 | refine bwS ?_ GE194.out) | exact HB.out)⟩
              · rw [if_neg c17] at H
                have c17b0 : (t206 == 5) = false := beq_eq_false_iff_ne.mpr c17
                have c17b1 : (t206 != 5) = true := bne_iff_ne.mpr c17
                obtain rfl := Option.some.inj H
                go_enter Try.func6, Try.ntmps6
                go_wp2_with (first | ((with_reducible refine gate_dst (N := 2) rfl ?_); (try (refine gate_guard (by rfl) ?_; dsimp only)); refine box_event ?hg (N := 2) ?hd (cs := #[.int .i64 a0_0, .int .i64 a0_1, .int .i64 a0_2]) (t := 32) ?hr ?_; (case hd => rfl); (case hg => rfl); (case hr => first | (go_simp; done) | (go_simp; rfl)); intro gb194 hg w28 hbox hb; have n0_ := Z0.mk (bwT (by repeat (first | (with_reducible first | exact HB.out | apply bwA | apply bwN | apply bw1) | exact HB.out)) hb); have n1_ := Z0.mk (hbox); have n2_ := Z0.mk ((by rw [hg]; exact (bwZ (by repeat (first | (with_reducible first | exact HB.out | apply bwA | apply bwN | apply bw1) | exact HB.out))) : w.heap.size ≤ gb194)); have n3_ := Z0.mk ((by rw [hg]; exact (bwZ (by repeat (first | (with_reducible first | exact HB.out | apply bwA | apply bwN | apply bw1) | exact HB.out))) : w.heap.size ≤ gb194)); clear HB; have HB := n0_; have BK194 := n1_; have GW194 := n2_; have GE194 := n3_; clear n0_ n1_ n2_ n3_; clear hb hbox hg) | (go_at_call 13; (with_reducible refine (culletlaw16_awake.calls k  true _ A3.out).mono ?_); rintro e w29 ⟨rfl, hb⟩; have n0_ := Z0.mk (bkB (g := gb194) (o := .cells #[.int .i64 a0_0, .int .i64 a0_1, .int .i64 a0_2] 32 (0, 0)) (by (with_reducible repeat (first | refine bkN ?_ _ | refine bkD ?_ | refine bkA ?_ _)); exact BK194.out) hb); have n1_ := Z0.mk (bwT (by repeat (first | (with_reducible first | exact HB.out | apply bwA | apply bwN | apply bw1 | refine bwS ?_ GE194.out) | exact HB.out)) hb); clear BK194; clear HB; have BK194 := n0_; have HB := n1_; clear n0_ n1_; (try clear hb); (try clear hb2); (try clear hk); (try clear hi); have hcz30_0 : w29.cell? ⟨gb194, 0, none⟩ = some (.int .i64 a0_0) := (bkC BK194.out 0).trans rfl; have hcz30_1 : w29.cell? ⟨gb194, 1, none⟩ = some (.int .i64 a0_1) := (bkC BK194.out 1).trans rfl; have hcz30_2 : w29.cell? ⟨gb194, 2, none⟩ = some (.int .i64 a0_2) := (bkC BK194.out 2).trans rfl; have hfz30_0 := bkF BK194.out 0; have hfz30_1 := bkF BK194.out 1; have hfz30_2 := bkF BK194.out 2) | (go_at_call 16; (refine (culletlaw16_great.calls k 0 a0_0 a0_1 a0_2 0 _ _ ([] : List (List Int)) _ _ ([] : List (List Int)) _ _ l1 false _ ?side1 ?side2 ?side3 ?side4 ?side5 ?side6 A5.out).mono ?_); (case side1 => exact Kd.C_nil _ _); (case side2 => exact Nat.le_refl _); (case side3 => exact Kd.C_nil _ _); (case side4 => exact Nat.le_refl _); (case side5 => repeat (first | exact (Kd.C_below HR1.out HB.out) | (with_reducible refine Kd.C_alloc ?_ _) | (with_reducible refine Kd.C_drewN ?_ _) | (with_reducible refine Kd.C_drew ?_))); (case side6 => exact HC1.out); rintro e w31 ⟨rfl, hb⟩; have n0_ := Z0.mk (bkB (g := gb194) (o := .cells #[.int .i64 a0_0, .int .i64 a0_1, .int .i64 a0_2] 32 (0, 0)) (by (with_reducible repeat (first | refine bkN ?_ _ | refine bkD ?_ | refine bkA ?_ _)); exact BK194.out) hb); have n1_ := Z0.mk (bwT (by repeat (first | (with_reducible first | exact HB.out | apply bwA | apply bwN | apply bw1 | refine bwS ?_ GE194.out) | exact HB.out)) hb); clear BK194; clear HB; have BK194 := n0_; have HB := n1_; clear n0_ n1_; (try clear hb); (try clear hb2); (try clear hk); (try clear hi)) | (go_at_call 15; (with_reducible refine (shape_Length.calls k a0_0 a0_1 a0_2 (l1.length : Int) t197 t198 _ A11.out).mono ?_); rintro e w' ⟨rfl, ⟨nd, rfl⟩⟩; (try first | exact ⟨rfl, _, World.drewN_drewN _ _ _⟩ | exact ⟨rfl, _, Eq.trans (World.drewN_drewN _ _ _) (congrArg (World.drewN _) (Nat.add_assoc _ _ _))⟩)) | ((with_reducible refine gate_dst (N := 46) rfl ?_); (try (refine gate_guard (by rfl) ?_; dsimp only)); refine Kd.R_lit (Kd.int .u8) _ 5 ?hg (N := 46) ?hd (xs := ([] : List Int)) (inner := []) (ok := fun _ => True) (okp := fun _ => True) ?hr ?hp (fun _ hk => hk) trivial (Below.refl _ _) (Nat.le_refl _) (by simp) ?_; (case hd => rfl); (case hg => rfl); (case hr => first | (go_simp; done) | (go_simp; rfl)); (case hp => exact (Reps.none _ _)); intro v200 w32 ho33 hb hg_ hnew_; clear hg_ hnew_; (first | rw [← Ny199.out] at ho33 | (simp only [Int.reduceToNat] at ho33; rw [← Ny199.out] at ho33)); have n0_ := Z0.mk (Kd.R_lower ho33 (bwZ (by repeat (first | (with_reducible first | exact HB.out | apply bwA | apply bwN | apply bw1 | refine bwS ?_ GE194.out) | exact HB.out)))); have n1_ := Z0.mk (bkB (g := gb194) (o := .cells #[.int .i64 a0_0, .int .i64 a0_1, .int .i64 a0_2] 32 (0, 0)) (by (with_reducible repeat (first | refine bkN ?_ _ | refine bkD ?_ | refine bkA ?_ _)); exact BK194.out) hb); have n2_ := Z0.mk (bwT (by repeat (first | (with_reducible first | exact HB.out | apply bwA | apply bwN | apply bw1 | refine bwS ?_ GE194.out) | exact HB.out)) hb); clear BK194; clear HB; have HO201 := n0_; have BK194 := n1_; have HB := n2_; clear n0_ n1_ n2_; clear hb ho33) | ((with_reducible refine gate_builtin (b := .append) (xs := #[.tmp 46, .tmp 47]) rfl ?_); (try (refine gate_guard (by rfl) ?_; dsimp only)); at_builtin; refine Kd.R_append_rows (Kd.int .u8) (w0 := w) w.heap.size rfl (.tmp 46) (.tmp 47) 27 5 (.int .u8 0) 1 rfl Try.underlying27 info5 rfl (by decide) (by omega) v200 y199 l1 _ _ _ (fun _ => True) (fun _ => False) rfl rfl ?aO ?aR (fun _ _ h => h) (fun _ h => h.elim) ?aF ?aB ?aS ?aL ?_; (case aR => repeat (first | exact (Kd.C_below HR1.out HB.out) | (with_reducible refine Kd.C_alloc ?_ _) | (with_reducible refine Kd.C_drewN ?_ _) | (with_reducible refine Kd.C_drew ?_))); (case aB => exact (by repeat (first | (with_reducible first | exact HB.out | apply bwA | apply bwN | apply bw1 | refine bwS ?_ GE194.out) | exact HB.out))); (case aF => exact (fun _ _ => trivial)); (case aO => exact (by (with_reducible repeat (first | apply Kd.R_alloc | apply Kd.R_drewN | apply Kd.R_drew)); exact HO201.out)); (case aS => exact (bwZ (by repeat (first | (with_reducible first | exact HB.out | apply bwA | apply bwN | apply bw1 | refine bwS ?_ GE194.out) | exact HB.out)))); (case aL => have := LMc12.out; omega); intro v203 w34 ho hb hg hat; rw [← Ny202.out] at ho; have n0_ := Z0.mk (blk_grown (g := gb194) (o := .cells #[.int .i64 a0_0, .int .i64 a0_1, .int .i64 a0_2] 32 (0, 0)) (by (with_reducible repeat (first | refine bkN ?_ _ | refine bkD ?_ | refine bkA ?_ _)); exact BK194.out) hg (Kd.R_ne HO201.out BK194.out (by decide))); have n1_ := Z0.mk (hb); have n2_ := Z0.mk (ho); clear BK194; clear HB; clear HO201; have BK194 := n0_; have HB := n1_; have HO204 := n2_; clear n0_ n1_ n2_; clear ho hb hg hat; obtain ⟨Ao35, co35, eo35⟩ := Kd.R_slice HO204.out; subst eo35) | (go_at_call 12; (with_reducible refine (shape_Split.calls k a0_0 a0_1 a0_2 _ _ y202 t205 t206 _ ?side1 ?side2 A13.out).mono ?_); (case side1 => repeat (first | exact (Kd.R_reads' HO204.out).2.2 | (with_reducible refine Kd.C_alloc ?_ _) | (with_reducible refine Kd.C_drewN ?_ _) | (with_reducible refine Kd.C_drew ?_))); (case side2 => exact (Kd.R_reads' HO204.out).2.1); rintro e w36 ⟨v207, rfl, ho0, hb⟩; have n0_ := Z0.mk (Kd.R_below (by (with_reducible repeat (first | apply Kd.R_alloc | apply Kd.R_drewN | apply Kd.R_drew)); exact HO204.out) hb); have n1_ := Z0.mk (Kd.S_lower (Kd.S_new' ho0 (Kd.R_lt (by (with_reducible repeat (first | apply Kd.R_alloc | apply Kd.R_drewN | apply Kd.R_drew)); exact HO204.out))) (bwZ (by repeat (first | (with_reducible first | exact HB.out | apply bwA | apply bwN | apply bw1 | refine bwS ?_ GE194.out) | exact HB.out)))); have n2_ := Z0.mk (bkB (g := gb194) (o := .cells #[.int .i64 a0_0, .int .i64 a0_1, .int .i64 a0_2] 32 (0, 0)) (by (with_reducible repeat (first | refine bkN ?_ _ | refine bkD ?_ | refine bkA ?_ _)); exact BK194.out) hb); have n3_ := Z0.mk (bwT (by repeat (first | (with_reducible first | exact HB.out | apply bwA | apply bwN | apply bw1 | refine bwS ?_ GE194.out) | exact HB.out)) hb); clear HO204; clear BK194; clear HB; have HO204 := n0_; have HO208 := n1_; have BK194 := n2_; have HB := n3_; clear n0_ n1_ n2_ n3_; (try clear hb); (try clear hb2); (try clear hk); (try clear hi); (try clear ho0)))
                repeat (go_quiet (first | ((with_reducible refine gate_dst (N := 2) rfl ?_); (try (refine gate_guard (by rfl) ?_; dsimp only)); refine box_event ?hg (N := 2) ?hd (cs := #[.int .i64 a0_0, .int .i64 a0_1, .int .i64 a0_2]) (t := 32) ?hr ?_; (case hd => rfl); (case hg => rfl); (case hr => first | (go_simp; done) | (go_simp; rfl)); intro gb194 hg w28 hbox hb; have n0_ := Z0.mk (bwT (by repeat (first | (with_reducible first | exact HB.out | apply bwA | apply bwN | apply bw1) | exact HB.out)) hb); have n1_ := Z0.mk (hbox); have n2_ := Z0.mk ((by rw [hg]; exact (bwZ (by repeat (first | (with_reducible first | exact HB.out | apply bwA | apply bwN | apply bw1) | exact HB.out))) : w.heap.size ≤ gb194)); have n3_ := Z0.mk ((by rw [hg]; exact (bwZ (by repeat (first | (with_reducible first | exact HB.out | apply bwA | apply bwN | apply bw1) | exact HB.out))) : w.heap.size ≤ gb194)); clear HB; have HB := n0_; have BK194 := n1_; have GW194 := n2_; have GE194 := n3_; clear n0_ n1_ n2_ n3_; clear hb hbox hg) | (go_at_call 13; (with_reducible refine (culletlaw16_awake.calls k  true _ A3.out).mono ?_); rintro e w29 ⟨rfl, hb⟩; have n0_ := Z0.mk (bkB (g := gb194) (o := .cells #[.int .i64 a0_0, .int .i64 a0_1, .int .i64 a0_2] 32 (0, 0)) (by (with_reducible repeat (first | refine bkN ?_ _ | refine bkD ?_ | refine bkA ?_ _)); exact BK194.out) hb); have n1_ := Z0.mk (bwT (by repeat (first | (with_reducible first | exact HB.out | apply bwA | apply bwN | apply bw1 | refine bwS ?_ GE194.out) | exact HB.out)) hb); clear BK194; clear HB; have BK194 := n0_; have HB := n1_; clear n0_ n1_; (try clear hb); (try clear hb2); (try clear hk); (try clear hi); have hcz30_0 : w29.cell? ⟨gb194, 0, none⟩ = some (.int .i64 a0_0) := (bkC BK194.out 0).trans rfl; have hcz30_1 : w29.cell? ⟨gb194, 1, none⟩ = some (.int .i64 a0_1) := (bkC BK194.out 1).trans rfl; have hcz30_2 : w29.cell? ⟨gb194, 2, none⟩ = some (.int .i64 a0_2) := (bkC BK194.out 2).trans rfl; have hfz30_0 := bkF BK194.out 0; have hfz30_1 := bkF BK194.out 1; have hfz30_2 := bkF BK194.out 2) | (go_at_call 16; (refine (culletlaw16_great.calls k 0 a0_0 a0_1 a0_2 0 _ _ ([] : List (List Int)) _ _ ([] : List (List Int)) _ _ l1 false _ ?side1 ?side2 ?side3 ?side4 ?side5 ?side6 A5.out).mono ?_); (case side1 => exact Kd.C_nil _ _); (case side2 => exact Nat.le_refl _); (case side3 => exact Kd.C_nil _ _); (case side4 => exact Nat.le_refl _); (case side5 => repeat (first | exact (Kd.C_below HR1.out HB.out) | (with_reducible refine Kd.C_alloc ?_ _) | (with_reducible refine Kd.C_drewN ?_ _) | (with_reducible refine Kd.C_drew ?_))); (case side6 => exact HC1.out); rintro e w31 ⟨rfl, hb⟩; have n0_ := Z0.mk (bkB (g := gb194) (o := .cells #[.int .i64 a0_0, .int .i64 a0_1, .int .i64 a0_2] 32 (0, 0)) (by (with_reducible repeat (first | refine bkN ?_ _ | refine bkD ?_ | refine bkA ?_ _)); exact BK194.out) hb); have n1_ := Z0.mk (bwT (by repeat (first | (with_reducible first | exact HB.out | apply bwA | apply bwN | apply bw1 | refine bwS ?_ GE194.out) | exact HB.out)) hb); clear BK194; clear HB; have BK194 := n0_; have HB := n1_; clear n0_ n1_; (try clear hb); (try clear hb2); (try clear hk); (try clear hi)) | (go_at_call 15; (with_reducible refine (shape_Length.calls k a0_0 a0_1 a0_2 (l1.length : Int) t197 t198 _ A11.out).mono ?_); rintro e w' ⟨rfl, ⟨nd, rfl⟩⟩; (try first | exact ⟨rfl, _, World.drewN_drewN _ _ _⟩ | exact ⟨rfl, _, Eq.trans (World.drewN_drewN _ _ _) (congrArg (World.drewN _) (Nat.add_assoc _ _ _))⟩)) | ((with_reducible refine gate_dst (N := 46) rfl ?_); (try (refine gate_guard (by rfl) ?_; dsimp only)); refine Kd.R_lit (Kd.int .u8) _ 5 ?hg (N := 46) ?hd (xs := ([] : List Int)) (inner := []) (ok := fun _ => True) (okp := fun _ => True) ?hr ?hp (fun _ hk => hk) trivial (Below.refl _ _) (Nat.le_refl _) (by simp) ?_; (case hd => rfl); (case hg => rfl); (case hr => first | (go_simp; done) | (go_simp; rfl)); (case hp => exact (Reps.none _ _)); intro v200 w32 ho33 hb hg_ hnew_; clear hg_ hnew_; (first | rw [← Ny199.out] at ho33 | (simp only [Int.reduceToNat] at ho33; rw [← Ny199.out] at ho33)); have n0_ := Z0.mk (Kd.R_lower ho33 (bwZ (by repeat (first | (with_reducible first | exact HB.out | apply bwA | apply bwN | apply bw1 | refine bwS ?_ GE194.out) | exact HB.out)))); have n1_ := Z0.mk (bkB (g := gb194) (o := .cells #[.int .i64 a0_0, .int .i64 a0_1, .int .i64 a0_2] 32 (0, 0)) (by (with_reducible repeat (first | refine bkN ?_ _ | refine bkD ?_ | refine bkA ?_ _)); exact BK194.out) hb); have n2_ := Z0.mk (bwT (by repeat (first | (with_reducible first | exact HB.out | apply bwA | apply bwN | apply bw1 | refine bwS ?_ GE194.out) | exact HB.out)) hb); clear BK194; clear HB; have HO201 := n0_; have BK194 := n1_; have HB := n2_; clear n0_ n1_ n2_; clear hb ho33) | ((with_reducible refine gate_builtin (b := .append) (xs := #[.tmp 46, .tmp 47]) rfl ?_); (try (refine gate_guard (by rfl) ?_; dsimp only)); at_builtin; refine Kd.R_append_rows (Kd.int .u8) (w0 := w) w.heap.size rfl (.tmp 46) (.tmp 47) 27 5 (.int .u8 0) 1 rfl Try.underlying27 info5 rfl (by decide) (by omega) v200 y199 l1 _ _ _ (fun _ => True) (fun _ => False) rfl rfl ?aO ?aR (fun _ _ h => h) (fun _ h => h.elim) ?aF ?aB ?aS ?aL ?_; (case aR => repeat (first | exact (Kd.C_below HR1.out HB.out) | (with_reducible refine Kd.C_alloc ?_ _) | (with_reducible refine Kd.C_drewN ?_ _) | (with_reducible refine Kd.C_drew ?_))); (case aB => exact (by repeat (first | (with_reducible first | exact HB.out | apply bwA | apply bwN | apply bw1 | refine bwS ?_ GE194.out) | exact HB.out))); (case aF => exact (fun _ _ => trivial)); (case aO => exact (by (with_reducible repeat (first | apply Kd.R_alloc | apply Kd.R_drewN | apply Kd.R_drew)); exact HO201.out)); (case aS => exact (bwZ (by repeat (first | (with_reducible first | exact HB.out | apply bwA | apply bwN | apply bw1 | refine bwS ?_ GE194.out) | exact HB.out)))); (case aL => have := LMc12.out; omega); intro v203 w34 ho hb hg hat; rw [← Ny202.out] at ho; have n0_ := Z0.mk (blk_grown (g := gb194) (o := .cells #[.int .i64 a0_0, .int .i64 a0_1, .int .i64 a0_2] 32 (0, 0)) (by (with_reducible repeat (first | refine bkN ?_ _ | refine bkD ?_ | refine bkA ?_ _)); exact BK194.out) hg (Kd.R_ne HO201.out BK194.out (by decide))); have n1_ := Z0.mk (hb); have n2_ := Z0.mk (ho); clear BK194; clear HB; clear HO201; have BK194 := n0_; have HB := n1_; have HO204 := n2_; clear n0_ n1_ n2_; clear ho hb hg hat; obtain ⟨Ao35, co35, eo35⟩ := Kd.R_slice HO204.out; subst eo35) | (go_at_call 12; (with_reducible refine (shape_Split.calls k a0_0 a0_1 a0_2 _ _ y202 t205 t206 _ ?side1 ?side2 A13.out).mono ?_); (case side1 => repeat (first | exact (Kd.R_reads' HO204.out).2.2 | (with_reducible refine Kd.C_alloc ?_ _) | (with_reducible refine Kd.C_drewN ?_ _) | (with_reducible refine Kd.C_drew ?_))); (case side2 => exact (Kd.R_reads' HO204.out).2.1); rintro e w36 ⟨v207, rfl, ho0, hb⟩; have n0_ := Z0.mk (Kd.R_below (by (with_reducible repeat (first | apply Kd.R_alloc | apply Kd.R_drewN | apply Kd.R_drew)); exact HO204.out) hb); have n1_ := Z0.mk (Kd.S_lower (Kd.S_new' ho0 (Kd.R_lt (by (with_reducible repeat (first | apply Kd.R_alloc | apply Kd.R_drewN | apply Kd.R_drew)); exact HO204.out))) (bwZ (by repeat (first | (with_reducible first | exact HB.out | apply bwA | apply bwN | apply bw1 | refine bwS ?_ GE194.out) | exact HB.out)))); have n2_ := Z0.mk (bkB (g := gb194) (o := .cells #[.int .i64 a0_0, .int .i64 a0_1, .int .i64 a0_2] 32 (0, 0)) (by (with_reducible repeat (first | refine bkN ?_ _ | refine bkD ?_ | refine bkA ?_ _)); exact BK194.out) hb); have n3_ := Z0.mk (bwT (by repeat (first | (with_reducible first | exact HB.out | apply bwA | apply bwN | apply bw1 | refine bwS ?_ GE194.out) | exact HB.out)) hb); clear HO204; clear BK194; clear HB; have HO204 := n0_; have HO208 := n1_; have BK194 := n2_; have HB := n3_; clear n0_ n1_ n2_ n3_; (try clear hb); (try clear hb2); (try clear hk); (try clear hi); (try clear ho0))); try go_wp2_with (first | ((with_reducible refine gate_dst (N := 2) rfl ?_); (try (refine gate_guard (by rfl) ?_; dsimp only)); refine box_event ?hg (N := 2) ?hd (cs := #[.int .i64 a0_0, .int .i64 a0_1, .int .i64 a0_2]) (t := 32) ?hr ?_; (case hd => rfl); (case hg => rfl); (case hr => first | (go_simp; done) | (go_simp; rfl)); intro gb194 hg w28 hbox hb; have n0_ := Z0.mk (bwT (by repeat (first | (with_reducible first | exact HB.out | apply bwA | apply bwN | apply bw1) | exact HB.out)) hb); have n1_ := Z0.mk (hbox); have n2_ := Z0.mk ((by rw [hg]; exact (bwZ (by repeat (first | (with_reducible first | exact HB.out | apply bwA | apply bwN | apply bw1) | exact HB.out))) : w.heap.size ≤ gb194)); have n3_ := Z0.mk ((by rw [hg]; exact (bwZ (by repeat (first | (with_reducible first | exact HB.out | apply bwA | apply bwN | apply bw1) | exact HB.out))) : w.heap.size ≤ gb194)); clear HB; have HB := n0_; have BK194 := n1_; have GW194 := n2_; have GE194 := n3_; clear n0_ n1_ n2_ n3_; clear hb hbox hg) | (go_at_call 13; (with_reducible refine (culletlaw16_awake.calls k  true _ A3.out).mono ?_); rintro e w29 ⟨rfl, hb⟩; have n0_ := Z0.mk (bkB (g := gb194) (o := .cells #[.int .i64 a0_0, .int .i64 a0_1, .int .i64 a0_2] 32 (0, 0)) (by (with_reducible repeat (first | refine bkN ?_ _ | refine bkD ?_ | refine bkA ?_ _)); exact BK194.out) hb); have n1_ := Z0.mk (bwT (by repeat (first | (with_reducible first | exact HB.out | apply bwA | apply bwN | apply bw1 | refine bwS ?_ GE194.out) | exact HB.out)) hb); clear BK194; clear HB; have BK194 := n0_; have HB := n1_; clear n0_ n1_; (try clear hb); (try clear hb2); (try clear hk); (try clear hi); have hcz30_0 : w29.cell? ⟨gb194, 0, none⟩ = some (.int .i64 a0_0) := (bkC BK194.out 0).trans rfl; have hcz30_1 : w29.cell? ⟨gb194, 1, none⟩ = some (.int .i64 a0_1) := (bkC BK194.out 1).trans rfl; have hcz30_2 : w29.cell? ⟨gb194, 2, none⟩ = some (.int .i64 a0_2) := (bkC BK194.out 2).trans rfl; have hfz30_0 := bkF BK194.out 0; have hfz30_1 := bkF BK194.out 1; have hfz30_2 := bkF BK194.out 2) | (go_at_call 16; (refine (culletlaw16_great.calls k 0 a0_0 a0_1 a0_2 0 _ _ ([] : List (List Int)) _ _ ([] : List (List Int)) _ _ l1 false _ ?side1 ?side2 ?side3 ?side4 ?side5 ?side6 A5.out).mono ?_); (case side1 => exact Kd.C_nil _ _); (case side2 => exact Nat.le_refl _); (case side3 => exact Kd.C_nil _ _); (case side4 => exact Nat.le_refl _); (case side5 => repeat (first | exact (Kd.C_below HR1.out HB.out) | (with_reducible refine Kd.C_alloc ?_ _) | (with_reducible refine Kd.C_drewN ?_ _) | (with_reducible refine Kd.C_drew ?_))); (case side6 => exact HC1.out); rintro e w31 ⟨rfl, hb⟩; have n0_ := Z0.mk (bkB (g := gb194) (o := .cells #[.int .i64 a0_0, .int .i64 a0_1, .int .i64 a0_2] 32 (0, 0)) (by (with_reducible repeat (first | refine bkN ?_ _ | refine bkD ?_ | refine bkA ?_ _)); exact BK194.out) hb); have n1_ := Z0.mk (bwT (by repeat (first | (with_reducible first | exact HB.out | apply bwA | apply bwN | apply bw1 | refine bwS ?_ GE194.out) | exact HB.out)) hb); clear BK194; clear HB; have BK194 := n0_; have HB := n1_; clear n0_ n1_; (try clear hb); (try clear hb2); (try clear hk); (try clear hi)) | (go_at_call 15; (with_reducible refine (shape_Length.calls k a0_0 a0_1 a0_2 (l1.length : Int) t197 t198 _ A11.out).mono ?_); rintro e w' ⟨rfl, ⟨nd, rfl⟩⟩; (try first | exact ⟨rfl, _, World.drewN_drewN _ _ _⟩ | exact ⟨rfl, _, Eq.trans (World.drewN_drewN _ _ _) (congrArg (World.drewN _) (Nat.add_assoc _ _ _))⟩)) | ((with_reducible refine gate_dst (N := 46) rfl ?_); (try (refine gate_guard (by rfl) ?_; dsimp only)); refine Kd.R_lit (Kd.int .u8) _ 5 ?hg (N := 46) ?hd (xs := ([] : List Int)) (inner := []) (ok := fun _ => True) (okp := fun _ => True) ?hr ?hp (fun _ hk => hk) trivial (Below.refl _ _) (Nat.le_refl _) (by simp) ?_; (case hd => rfl); (case hg => rfl); (case hr => first | (go_simp; done) | (go_simp; rfl)); (case hp => exact (Reps.none _ _)); intro v200 w32 ho33 hb hg_ hnew_; clear hg_ hnew_; (first | rw [← Ny199.out] at ho33 | (simp only [Int.reduceToNat] at ho33; rw [← Ny199.out] at ho33)); have n0_ := Z0.mk (Kd.R_lower ho33 (bwZ (by repeat (first | (with_reducible first | exact HB.out | apply bwA | apply bwN | apply bw1 | refine bwS ?_ GE194.out) | exact HB.out)))); have n1_ := Z0.mk (bkB (g := gb194) (o := .cells #[.int .i64 a0_0, .int .i64 a0_1, .int .i64 a0_2] 32 (0, 0)) (by (with_reducible repeat (first | refine bkN ?_ _ | refine bkD ?_ | refine bkA ?_ _)); exact BK194.out) hb); have n2_ := Z0.mk (bwT (by repeat (first | (with_reducible first | exact HB.out | apply bwA | apply bwN | apply bw1 | refine bwS ?_ GE194.out) | exact HB.out)) hb); clear BK194; clear HB; have HO201 := n0_; have BK194 := n1_; have HB := n2_; clear n0_ n1_ n2_; clear hb ho33) | ((with_reducible refine gate_builtin (b := .append) (xs := #[.tmp 46, .tmp 47]) rfl ?_); (try (refine gate_guard (by rfl) ?_; dsimp only)); at_builtin; refine Kd.R_append_rows (Kd.int .u8) (w0 := w) w.heap.size rfl (.tmp 46) (.tmp 47) 27 5 (.int .u8 0) 1 rfl Try.underlying27 info5 rfl (by decide) (by omega) v200 y199 l1 _ _ _ (fun _ => True) (fun _ => False) rfl rfl ?aO ?aR (fun _ _ h => h) (fun _ h => h.elim) ?aF ?aB ?aS ?aL ?_; (case aR => repeat (first | exact (Kd.C_below HR1.out HB.out) | (with_reducible refine Kd.C_alloc ?_ _) | (with_reducible refine Kd.C_drewN ?_ _) | (with_reducible refine Kd.C_drew ?_))); (case aB => exact (by repeat (first | (with_reducible first | exact HB.out | apply bwA | apply bwN | apply bw1 | refine bwS ?_ GE194.out) | exact HB.out))); (case aF => exact (fun _ _ => trivial)); (case aO => exact (by (with_reducible repeat (first | apply Kd.R_alloc | apply Kd.R_drewN | apply Kd.R_drew)); exact HO201.out)); (case aS => exact (bwZ (by repeat (first | (with_reducible first | exact HB.out | apply bwA | apply bwN | apply bw1 | refine bwS ?_ GE194.out) | exact HB.out)))); (case aL => have := LMc12.out; omega); intro v203 w34 ho hb hg hat; rw [← Ny202.out] at ho; have n0_ := Z0.mk (blk_grown (g := gb194) (o := .cells #[.int .i64 a0_0, .int .i64 a0_1, .int .i64 a0_2] 32 (0, 0)) (by (with_reducible repeat (first | refine bkN ?_ _ | refine bkD ?_ | refine bkA ?_ _)); exact BK194.out) hg (Kd.R_ne HO201.out BK194.out (by decide))); have n1_ := Z0.mk (hb); have n2_ := Z0.mk (ho); clear BK194; clear HB; clear HO201; have BK194 := n0_; have HB := n1_; have HO204 := n2_; clear n0_ n1_ n2_; clear ho hb hg hat; obtain ⟨Ao35, co35, eo35⟩ := Kd.R_slice HO204.out; subst eo35) | (go_at_call 12; (with_reducible refine (shape_Split.calls k a0_0 a0_1 a0_2 _ _ y202 t205 t206 _ ?side1 ?side2 A13.out).mono ?_); (case side1 => repeat (first | exact (Kd.R_reads' HO204.out).2.2 | (with_reducible refine Kd.C_alloc ?_ _) | (with_reducible refine Kd.C_drewN ?_ _) | (with_reducible refine Kd.C_drew ?_))); (case side2 => exact (Kd.R_reads' HO204.out).2.1); rintro e w36 ⟨v207, rfl, ho0, hb⟩; have n0_ := Z0.mk (Kd.R_below (by (with_reducible repeat (first | apply Kd.R_alloc | apply Kd.R_drewN | apply Kd.R_drew)); exact HO204.out) hb); have n1_ := Z0.mk (Kd.S_lower (Kd.S_new' ho0 (Kd.R_lt (by (with_reducible repeat (first | apply Kd.R_alloc | apply Kd.R_drewN | apply Kd.R_drew)); exact HO204.out))) (bwZ (by repeat (first | (with_reducible first | exact HB.out | apply bwA | apply bwN | apply bw1 | refine bwS ?_ GE194.out) | exact HB.out)))); have n2_ := Z0.mk (bkB (g := gb194) (o := .cells #[.int .i64 a0_0, .int .i64 a0_1, .int .i64 a0_2] 32 (0, 0)) (by (with_reducible repeat (first | refine bkN ?_ _ | refine bkD ?_ | refine bkA ?_ _)); exact BK194.out) hb); have n3_ := Z0.mk (bwT (by repeat (first | (with_reducible first | exact HB.out | apply bwA | apply bwN | apply bw1 | refine bwS ?_ GE194.out) | exact HB.out)) hb); clear HO204; clear BK194; clear HB; have HO204 := n0_; have HO208 := n1_; have BK194 := n2_; have HB := n3_; clear n0_ n1_ n2_ n3_; (try clear hb); (try clear hb2); (try clear hk); (try clear hi); (try clear ho0))))
                go_ret
                exact ⟨by first | rfl | (simp [ewN, ewS] <;> rfl) | (simp [*, ewN, ewS] <;> rfl), by repeat (first | (with_reducible first | exact HB.out | apply bwA | apply bwN | apply bw1 | refine bwS ?_ GE194.out) | exact HB.out)⟩
            · rw [if_neg c16] at H
              have c16b0 : decide ((wrap64 (Int.tdiv (67108864 : Int) (wrap64 (a0_1 + a0_2)))) < t197) = false := decide_eq_false c16
              clear c16
              replace H := Option.bind_eq_some_iff.mp H
              obtain ⟨⟨t209, t210⟩, A370, H⟩ := H
              dsimp only at H
              have A37 := Z0.mk A370
              clear A370
              have HC38 := Z0.mk H
              clear H
              go_enter Try.func6, Try.ntmps6
              go_upto_region 13 with (first | ((with_reducible refine gate_dst (N := 2) rfl ?_); (try (refine gate_guard (by rfl) ?_; dsimp only)); refine box_event ?hg (N := 2) ?hd (cs := #[.int .i64 a0_0, .int .i64 a0_1, .int .i64 a0_2]) (t := 32) ?hr ?_; (case hd => rfl); (case hg => rfl); (case hr => first | (go_simp; done) | (go_simp; rfl)); intro gb194 hg w39 hbox hb; have n0_ := Z0.mk (bwT (by repeat (first | (with_reducible first | exact HB.out | apply bwA | apply bwN | apply bw1) | exact HB.out)) hb); have n1_ := Z0.mk (hbox); have n2_ := Z0.mk ((by rw [hg]; exact (bwZ (by repeat (first | (with_reducible first | exact HB.out | apply bwA | apply bwN | apply bw1) | exact HB.out))) : w.heap.size ≤ gb194)); have n3_ := Z0.mk ((by rw [hg]; exact (bwZ (by repeat (first | (with_reducible first | exact HB.out | apply bwA | apply bwN | apply bw1) | exact HB.out))) : w.heap.size ≤ gb194)); clear HB; have HB := n0_; have BK194 := n1_; have GW194 := n2_; have GE194 := n3_; clear n0_ n1_ n2_ n3_; clear hb hbox hg) | (go_at_call 13; (with_reducible refine (culletlaw16_awake.calls k  true _ A3.out).mono ?_); rintro e w40 ⟨rfl, hb⟩; have n0_ := Z0.mk (bkB (g := gb194) (o := .cells #[.int .i64 a0_0, .int .i64 a0_1, .int .i64 a0_2] 32 (0, 0)) (by (with_reducible repeat (first | refine bkN ?_ _ | refine bkD ?_ | refine bkA ?_ _)); exact BK194.out) hb); have n1_ := Z0.mk (bwT (by repeat (first | (with_reducible first | exact HB.out | apply bwA | apply bwN | apply bw1 | refine bwS ?_ GE194.out) | exact HB.out)) hb); clear BK194; clear HB; have BK194 := n0_; have HB := n1_; clear n0_ n1_; (try clear hb); (try clear hb2); (try clear hk); (try clear hi); have hcz41_0 : w40.cell? ⟨gb194, 0, none⟩ = some (.int .i64 a0_0) := (bkC BK194.out 0).trans rfl; have hcz41_1 : w40.cell? ⟨gb194, 1, none⟩ = some (.int .i64 a0_1) := (bkC BK194.out 1).trans rfl; have hcz41_2 : w40.cell? ⟨gb194, 2, none⟩ = some (.int .i64 a0_2) := (bkC BK194.out 2).trans rfl; have hfz41_0 := bkF BK194.out 0; have hfz41_1 := bkF BK194.out 1; have hfz41_2 := bkF BK194.out 2) | (go_at_call 16; (refine (culletlaw16_great.calls k 0 a0_0 a0_1 a0_2 0 _ _ ([] : List (List Int)) _ _ ([] : List (List Int)) _ _ l1 false _ ?side1 ?side2 ?side3 ?side4 ?side5 ?side6 A5.out).mono ?_); (case side1 => exact Kd.C_nil _ _); (case side2 => exact Nat.le_refl _); (case side3 => exact Kd.C_nil _ _); (case side4 => exact Nat.le_refl _); (case side5 => repeat (first | exact (Kd.C_below HR1.out HB.out) | (with_reducible refine Kd.C_alloc ?_ _) | (with_reducible refine Kd.C_drewN ?_ _) | (with_reducible refine Kd.C_drew ?_))); (case side6 => exact HC1.out); rintro e w42 ⟨rfl, hb⟩; have n0_ := Z0.mk (bkB (g := gb194) (o := .cells #[.int .i64 a0_0, .int .i64 a0_1, .int .i64 a0_2] 32 (0, 0)) (by (with_reducible repeat (first | refine bkN ?_ _ | refine bkD ?_ | refine bkA ?_ _)); exact BK194.out) hb); have n1_ := Z0.mk (bwT (by repeat (first | (with_reducible first | exact HB.out | apply bwA | apply bwN | apply bw1 | refine bwS ?_ GE194.out) | exact HB.out)) hb); clear BK194; clear HB; have BK194 := n0_; have HB := n1_; clear n0_ n1_; (try clear hb); (try clear hb2); (try clear hk); (try clear hi)) | (go_at_call 15; (with_reducible refine (shape_Length.calls k a0_0 a0_1 a0_2 (l1.length : Int) t197 t198 _ A11.out).mono ?_); rintro e w' ⟨rfl, ⟨nd, rfl⟩⟩; (try first | exact ⟨rfl, _, World.drewN_drewN _ _ _⟩ | exact ⟨rfl, _, Eq.trans (World.drewN_drewN _ _ _) (congrArg (World.drewN _) (Nat.add_assoc _ _ _))⟩)) | ((with_reducible refine gate_dst (N := 46) rfl ?_); (try (refine gate_guard (by rfl) ?_; dsimp only)); refine Kd.R_lit (Kd.int .u8) _ 5 ?hg (N := 46) ?hd (xs := ([] : List Int)) (inner := []) (ok := fun _ => True) (okp := fun _ => True) ?hr ?hp (fun _ hk => hk) trivial (Below.refl _ _) (Nat.le_refl _) (by simp) ?_; (case hd => rfl); (case hg => rfl); (case hr => first | (go_simp; done) | (go_simp; rfl)); (case hp => exact (Reps.none _ _)); intro v200 w43 ho44 hb hg_ hnew_; clear hg_ hnew_; (first | rw [← Ny199.out] at ho44 | (simp only [Int.reduceToNat] at ho44; rw [← Ny199.out] at ho44)); have n0_ := Z0.mk (Kd.R_lower ho44 (bwZ (by repeat (first | (with_reducible first | exact HB.out | apply bwA | apply bwN | apply bw1 | refine bwS ?_ GE194.out) | exact HB.out)))); have n1_ := Z0.mk (bkB (g := gb194) (o := .cells #[.int .i64 a0_0, .int .i64 a0_1, .int .i64 a0_2] 32 (0, 0)) (by (with_reducible repeat (first | refine bkN ?_ _ | refine bkD ?_ | refine bkA ?_ _)); exact BK194.out) hb); have n2_ := Z0.mk (bwT (by repeat (first | (with_reducible first | exact HB.out | apply bwA | apply bwN | apply bw1 | refine bwS ?_ GE194.out) | exact HB.out)) hb); clear BK194; clear HB; have HO201 := n0_; have BK194 := n1_; have HB := n2_; clear n0_ n1_ n2_; clear hb ho44) | ((with_reducible refine gate_builtin (b := .append) (xs := #[.tmp 46, .tmp 47]) rfl ?_); (try (refine gate_guard (by rfl) ?_; dsimp only)); at_builtin; refine Kd.R_append_rows (Kd.int .u8) (w0 := w) w.heap.size rfl (.tmp 46) (.tmp 47) 27 5 (.int .u8 0) 1 rfl Try.underlying27 info5 rfl (by decide) (by omega) v200 y199 l1 _ _ _ (fun _ => True) (fun _ => False) rfl rfl ?aO ?aR (fun _ _ h => h) (fun _ h => h.elim) ?aF ?aB ?aS ?aL ?_; (case aR => repeat (first | exact (Kd.C_below HR1.out HB.out) | (with_reducible refine Kd.C_alloc ?_ _) | (with_reducible refine Kd.C_drewN ?_ _) | (with_reducible refine Kd.C_drew ?_))); (case aB => exact (by repeat (first | (with_reducible first | exact HB.out | apply bwA | apply bwN | apply bw1 | refine bwS ?_ GE194.out) | exact HB.out))); (case aF => exact (fun _ _ => trivial)); (case aO => exact (by (with_reducible repeat (first | apply Kd.R_alloc | apply Kd.R_drewN | apply Kd.R_drew)); exact HO201.out)); (case aS => exact (bwZ (by repeat (first | (with_reducible first | exact HB.out | apply bwA | apply bwN | apply bw1 | refine bwS ?_ GE194.out) | exact HB.out)))); (case aL => have := LMc12.out; omega); intro v203 w45 ho hb hg hat; rw [← Ny202.out] at ho; have n0_ := Z0.mk (blk_grown (g := gb194) (o := .cells #[.int .i64 a0_0, .int .i64 a0_1, .int .i64 a0_2] 32 (0, 0)) (by (with_reducible repeat (first | refine bkN ?_ _ | refine bkD ?_ | refine bkA ?_ _)); exact BK194.out) hg (Kd.R_ne HO201.out BK194.out (by decide))); have n1_ := Z0.mk (hb); have n2_ := Z0.mk (ho); clear BK194; clear HB; clear HO201; have BK194 := n0_; have HB := n1_; have HO204 := n2_; clear n0_ n1_ n2_; clear ho hb hg hat; obtain ⟨Ao46, co46, eo46⟩ := Kd.R_slice HO204.out; subst eo46) | (go_at_call 12; (with_reducible refine (shape_Split.calls k a0_0 a0_1 a0_2 _ _ y202 t205 t206 _ ?side1 ?side2 A13.out).mono ?_); (case side1 => repeat (first | exact (Kd.R_reads' HO204.out).2.2 | (with_reducible refine Kd.C_alloc ?_ _) | (with_reducible refine Kd.C_drewN ?_ _) | (with_reducible refine Kd.C_drew ?_))); (case side2 => exact (Kd.R_reads' HO204.out).2.1); rintro e w47 ⟨v207, rfl, ho0, hb⟩; have n0_ := Z0.mk (Kd.R_below (by (with_reducible repeat (first | apply Kd.R_alloc | apply Kd.R_drewN | apply Kd.R_drew)); exact HO204.out) hb); have n1_ := Z0.mk (Kd.S_lower (Kd.S_new' ho0 (Kd.R_lt (by (with_reducible repeat (first | apply Kd.R_alloc | apply Kd.R_drewN | apply Kd.R_drew)); exact HO204.out))) (bwZ (by repeat (first | (with_reducible first | exact HB.out | apply bwA | apply bwN | apply bw1 | refine bwS ?_ GE194.out) | exact HB.out)))); have n2_ := Z0.mk (bkB (g := gb194) (o := .cells #[.int .i64 a0_0, .int .i64 a0_1, .int .i64 a0_2] 32 (0, 0)) (by (with_reducible repeat (first | refine bkN ?_ _ | refine bkD ?_ | refine bkA ?_ _)); exact BK194.out) hb); have n3_ := Z0.mk (bwT (by repeat (first | (with_reducible first | exact HB.out | apply bwA | apply bwN | apply bw1 | refine bwS ?_ GE194.out) | exact HB.out)) hb); clear HO204; clear BK194; clear HB; have HO204 := n0_; have HO208 := n1_; have BK194 := n2_; have HB := n3_; clear n0_ n1_ n2_ n3_; (try clear hb); (try clear hb2); (try clear hk); (try clear hi); (try clear ho0); obtain ⟨Ao48, co48, eo48⟩ := Kd.S_slice HO208.out; subst eo48) | (go_at_call 17; (with_reducible refine (shape_Whole.calls k a0_0 a0_1 a0_2 _ _ t205 t209 t210 _ ?side1 ?side2 A37.out).mono ?_); (case side1 => repeat (first | exact (Kd.S_reads' HO208.out).2.2 | (with_reducible refine Kd.C_alloc ?_ _) | (with_reducible refine Kd.C_drewN ?_ _) | (with_reducible refine Kd.C_drew ?_))); (case side2 => exact (Kd.S_reads' HO208.out).2.1); rintro e w49 ⟨rfl, hb⟩; have n0_ := Z0.mk (Kd.R_below (by (with_reducible repeat (first | apply Kd.R_alloc | apply Kd.R_drewN | apply Kd.R_drew)); exact HO204.out) hb); have n1_ := Z0.mk (Kd.S_below (by (with_reducible repeat (first | apply Kd.S_alloc | apply Kd.S_drewN | apply Kd.S_drew)); exact HO208.out) hb); have n2_ := Z0.mk (bkB (g := gb194) (o := .cells #[.int .i64 a0_0, .int .i64 a0_1, .int .i64 a0_2] 32 (0, 0)) (by (with_reducible repeat (first | refine bkN ?_ _ | refine bkD ?_ | refine bkA ?_ _)); exact BK194.out) hb); have n3_ := Z0.mk (bwT (by repeat (first | (with_reducible first | exact HB.out | apply bwA | apply bwN | apply bw1 | refine bwS ?_ GE194.out) | exact HB.out)) hb); clear HO204; clear HO208; clear BK194; clear HB; have HO204 := n0_; have HO208 := n1_; have BK194 := n2_; have HB := n3_; clear n0_ n1_ n2_ n3_; (try clear hb); (try clear hb2); (try clear hk); (try clear hi)))
              repeat (go_quiet (first | ((with_reducible refine gate_dst (N := 2) rfl ?_); (try (refine gate_guard (by rfl) ?_; dsimp only)); refine box_event ?hg (N := 2) ?hd (cs := #[.int .i64 a0_0, .int .i64 a0_1, .int .i64 a0_2]) (t := 32) ?hr ?_; (case hd => rfl); (case hg => rfl); (case hr => first | (go_simp; done) | (go_simp; rfl)); intro gb194 hg w39 hbox hb; have n0_ := Z0.mk (bwT (by repeat (first | (with_reducible first | exact HB.out | apply bwA | apply bwN | apply bw1) | exact HB.out)) hb); have n1_ := Z0.mk (hbox); have n2_ := Z0.mk ((by rw [hg]; exact (bwZ (by repeat (first | (with_reducible first | exact HB.out | apply bwA | apply bwN | apply bw1) | exact HB.out))) : w.heap.size ≤ gb194)); have n3_ := Z0.mk ((by rw [hg]; exact (bwZ (by repeat (first | (with_reducible first | exact HB.out | apply bwA | apply bwN | apply bw1) | exact HB.out))) : w.heap.size ≤ gb194)); clear HB; have HB := n0_; have BK194 := n1_; have GW194 := n2_; have GE194 := n3_; clear n0_ n1_ n2_ n3_; clear hb hbox hg) | (go_at_call 13; (with_reducible refine (culletlaw16_awake.calls k  true _ A3.out).mono ?_); rintro e w40 ⟨rfl, hb⟩; have n0_ := Z0.mk (bkB (g := gb194) (o := .cells #[.int .i64 a0_0, .int .i64 a0_1, .int .i64 a0_2] 32 (0, 0)) (by (with_reducible repeat (first | refine bkN ?_ _ | refine bkD ?_ | refine bkA ?_ _)); exact BK194.out) hb); have n1_ := Z0.mk (bwT (by repeat (first | (with_reducible first | exact HB.out | apply bwA | apply bwN | apply bw1 | refine bwS ?_ GE194.out) | exact HB.out)) hb); clear BK194; clear HB; have BK194 := n0_; have HB := n1_; clear n0_ n1_; (try clear hb); (try clear hb2); (try clear hk); (try clear hi); have hcz41_0 : w40.cell? ⟨gb194, 0, none⟩ = some (.int .i64 a0_0) := (bkC BK194.out 0).trans rfl; have hcz41_1 : w40.cell? ⟨gb194, 1, none⟩ = some (.int .i64 a0_1) := (bkC BK194.out 1).trans rfl; have hcz41_2 : w40.cell? ⟨gb194, 2, none⟩ = some (.int .i64 a0_2) := (bkC BK194.out 2).trans rfl; have hfz41_0 := bkF BK194.out 0; have hfz41_1 := bkF BK194.out 1; have hfz41_2 := bkF BK194.out 2) | (go_at_call 16; (refine (culletlaw16_great.calls k 0 a0_0 a0_1 a0_2 0 _ _ ([] : List (List Int)) _ _ ([] : List (List Int)) _ _ l1 false _ ?side1 ?side2 ?side3 ?side4 ?side5 ?side6 A5.out).mono ?_); (case side1 => exact Kd.C_nil _ _); (case side2 => exact Nat.le_refl _); (case side3 => exact Kd.C_nil _ _); (case side4 => exact Nat.le_refl _); (case side5 => repeat (first | exact (Kd.C_below HR1.out HB.out) | (with_reducible refine Kd.C_alloc ?_ _) | (with_reducible refine Kd.C_drewN ?_ _) | (with_reducible refine Kd.C_drew ?_))); (case side6 => exact HC1.out); rintro e w42 ⟨rfl, hb⟩; have n0_ := Z0.mk (bkB (g := gb194) (o := .cells #[.int .i64 a0_0, .int .i64 a0_1, .int .i64 a0_2] 32 (0, 0)) (by (with_reducible repeat (first | refine bkN ?_ _ | refine bkD ?_ | refine bkA ?_ _)); exact BK194.out) hb); have n1_ := Z0.mk (bwT (by repeat (first | (with_reducible first | exact HB.out | apply bwA | apply bwN | apply bw1 | refine bwS ?_ GE194.out) | exact HB.out)) hb); clear BK194; clear HB; have BK194 := n0_; have HB := n1_; clear n0_ n1_; (try clear hb); (try clear hb2); (try clear hk); (try clear hi)) | (go_at_call 15; (with_reducible refine (shape_Length.calls k a0_0 a0_1 a0_2 (l1.length : Int) t197 t198 _ A11.out).mono ?_); rintro e w' ⟨rfl, ⟨nd, rfl⟩⟩; (try first | exact ⟨rfl, _, World.drewN_drewN _ _ _⟩ | exact ⟨rfl, _, Eq.trans (World.drewN_drewN _ _ _) (congrArg (World.drewN _) (Nat.add_assoc _ _ _))⟩)) | ((with_reducible refine gate_dst (N := 46) rfl ?_); (try (refine gate_guard (by rfl) ?_; dsimp only)); refine Kd.R_lit (Kd.int .u8) _ 5 ?hg (N := 46) ?hd (xs := ([] : List Int)) (inner := []) (ok := fun _ => True) (okp := fun _ => True) ?hr ?hp (fun _ hk => hk) trivial (Below.refl _ _) (Nat.le_refl _) (by simp) ?_; (case hd => rfl); (case hg => rfl); (case hr => first | (go_simp; done) | (go_simp; rfl)); (case hp => exact (Reps.none _ _)); intro v200 w43 ho44 hb hg_ hnew_; clear hg_ hnew_; (first | rw [← Ny199.out] at ho44 | (simp only [Int.reduceToNat] at ho44; rw [← Ny199.out] at ho44)); have n0_ := Z0.mk (Kd.R_lower ho44 (bwZ (by repeat (first | (with_reducible first | exact HB.out | apply bwA | apply bwN | apply bw1 | refine bwS ?_ GE194.out) | exact HB.out)))); have n1_ := Z0.mk (bkB (g := gb194) (o := .cells #[.int .i64 a0_0, .int .i64 a0_1, .int .i64 a0_2] 32 (0, 0)) (by (with_reducible repeat (first | refine bkN ?_ _ | refine bkD ?_ | refine bkA ?_ _)); exact BK194.out) hb); have n2_ := Z0.mk (bwT (by repeat (first | (with_reducible first | exact HB.out | apply bwA | apply bwN | apply bw1 | refine bwS ?_ GE194.out) | exact HB.out)) hb); clear BK194; clear HB; have HO201 := n0_; have BK194 := n1_; have HB := n2_; clear n0_ n1_ n2_; clear hb ho44) | ((with_reducible refine gate_builtin (b := .append) (xs := #[.tmp 46, .tmp 47]) rfl ?_); (try (refine gate_guard (by rfl) ?_; dsimp only)); at_builtin; refine Kd.R_append_rows (Kd.int .u8) (w0 := w) w.heap.size rfl (.tmp 46) (.tmp 47) 27 5 (.int .u8 0) 1 rfl Try.underlying27 info5 rfl (by decide) (by omega) v200 y199 l1 _ _ _ (fun _ => True) (fun _ => False) rfl rfl ?aO ?aR (fun _ _ h => h) (fun _ h => h.elim) ?aF ?aB ?aS ?aL ?_; (case aR => repeat (first | exact (Kd.C_below HR1.out HB.out) | (with_reducible refine Kd.C_alloc ?_ _) | (with_reducible refine Kd.C_drewN ?_ _) | (with_reducible refine Kd.C_drew ?_))); (case aB => exact (by repeat (first | (with_reducible first | exact HB.out | apply bwA | apply bwN | apply bw1 | refine bwS ?_ GE194.out) | exact HB.out))); (case aF => exact (fun _ _ => trivial)); (case aO => exact (by (with_reducible repeat (first | apply Kd.R_alloc | apply Kd.R_drewN | apply Kd.R_drew)); exact HO201.out)); (case aS => exact (bwZ (by repeat (first | (with_reducible first | exact HB.out | apply bwA | apply bwN | apply bw1 | refine bwS ?_ GE194.out) | exact HB.out)))); (case aL => have := LMc12.out; omega); intro v203 w45 ho hb hg hat; rw [← Ny202.out] at ho; have n0_ := Z0.mk (blk_grown (g := gb194) (o := .cells #[.int .i64 a0_0, .int .i64 a0_1, .int .i64 a0_2] 32 (0, 0)) (by (with_reducible repeat (first | refine bkN ?_ _ | refine bkD ?_ | refine bkA ?_ _)); exact BK194.out) hg (Kd.R_ne HO201.out BK194.out (by decide))); have n1_ := Z0.mk (hb); have n2_ := Z0.mk (ho); clear BK194; clear HB; clear HO201; have BK194 := n0_; have HB := n1_; have HO204 := n2_; clear n0_ n1_ n2_; clear ho hb hg hat; obtain ⟨Ao46, co46, eo46⟩ := Kd.R_slice HO204.out; subst eo46) | (go_at_call 12; (with_reducible refine (shape_Split.calls k a0_0 a0_1 a0_2 _ _ y202 t205 t206 _ ?side1 ?side2 A13.out).mono ?_); (case side1 => repeat (first | exact (Kd.R_reads' HO204.out).2.2 | (with_reducible refine Kd.C_alloc ?_ _) | (with_reducible refine Kd.C_drewN ?_ _) | (with_reducible refine Kd.C_drew ?_))); (case side2 => exact (Kd.R_reads' HO204.out).2.1); rintro e w47 ⟨v207, rfl, ho0, hb⟩; have n0_ := Z0.mk (Kd.R_below (by (with_reducible repeat (first | apply Kd.R_alloc | apply Kd.R_drewN | apply Kd.R_drew)); exact HO204.out) hb); have n1_ := Z0.mk (Kd.S_lower (Kd.S_new' ho0 (Kd.R_lt (by (with_reducible repeat (first | apply Kd.R_alloc | apply Kd.R_drewN | apply Kd.R_drew)); exact HO204.out))) (bwZ (by repeat (first | (with_reducible first | exact HB.out | apply bwA | apply bwN | apply bw1 | refine bwS ?_ GE194.out) | exact HB.out)))); have n2_ := Z0.mk (bkB (g := gb194) (o := .cells #[.int .i64 a0_0, .int .i64 a0_1, .int .i64 a0_2] 32 (0, 0)) (by (with_reducible repeat (first | refine bkN ?_ _ | refine bkD ?_ | refine bkA ?_ _)); exact BK194.out) hb); have n3_ := Z0.mk (bwT (by repeat (first | (with_reducible first | exact HB.out | apply bwA | apply bwN | apply bw1 | refine bwS ?_ GE194.out) | exact HB.out)) hb); clear HO204; clear BK194; clear HB; have HO204 := n0_; have HO208 := n1_; have BK194 := n2_; have HB := n3_; clear n0_ n1_ n2_ n3_; (try clear hb); (try clear hb2); (try clear hk); (try clear hi); (try clear ho0); obtain ⟨Ao48, co48, eo48⟩ := Kd.S_slice HO208.out; subst eo48) | (go_at_call 17; (with_reducible refine (shape_Whole.calls k a0_0 a0_1 a0_2 _ _ t205 t209 t210 _ ?side1 ?side2 A37.out).mono ?_); (case side1 => repeat (first | exact (Kd.S_reads' HO208.out).2.2 | (with_reducible refine Kd.C_alloc ?_ _) | (with_reducible refine Kd.C_drewN ?_ _) | (with_reducible refine Kd.C_drew ?_))); (case side2 => exact (Kd.S_reads' HO208.out).2.1); rintro e w49 ⟨rfl, hb⟩; have n0_ := Z0.mk (Kd.R_below (by (with_reducible repeat (first | apply Kd.R_alloc | apply Kd.R_drewN | apply Kd.R_drew)); exact HO204.out) hb); have n1_ := Z0.mk (Kd.S_below (by (with_reducible repeat (first | apply Kd.S_alloc | apply Kd.S_drewN | apply Kd.S_drew)); exact HO208.out) hb); have n2_ := Z0.mk (bkB (g := gb194) (o := .cells #[.int .i64 a0_0, .int .i64 a0_1, .int .i64 a0_2] 32 (0, 0)) (by (with_reducible repeat (first | refine bkN ?_ _ | refine bkD ?_ | refine bkA ?_ _)); exact BK194.out) hb); have n3_ := Z0.mk (bwT (by repeat (first | (with_reducible first | exact HB.out | apply bwA | apply bwN | apply bw1 | refine bwS ?_ GE194.out) | exact HB.out)) hb); clear HO204; clear HO208; clear BK194; clear HB; have HO204 := n0_; have HO208 := n1_; have BK194 := n2_; have HB := n3_; clear n0_ n1_ n2_ n3_; (try clear hb); (try clear hb2); (try clear hk); (try clear hi))); go_upto_region 13 with (first | ((with_reducible refine gate_dst (N := 2) rfl ?_); (try (refine gate_guard (by rfl) ?_; dsimp only)); refine box_event ?hg (N := 2) ?hd (cs := #[.int .i64 a0_0, .int .i64 a0_1, .int .i64 a0_2]) (t := 32) ?hr ?_; (case hd => rfl); (case hg => rfl); (case hr => first | (go_simp; done) | (go_simp; rfl)); intro gb194 hg w39 hbox hb; have n0_ := Z0.mk (bwT (by repeat (first | (with_reducible first | exact HB.out | apply bwA | apply bwN | apply bw1) | exact HB.out)) hb); have n1_ := Z0.mk (hbox); have n2_ := Z0.mk ((by rw [hg]; exact (bwZ (by repeat (first | (with_reducible first | exact HB.out | apply bwA | apply bwN | apply bw1) | exact HB.out))) : w.heap.size ≤ gb194)); have n3_ := Z0.mk ((by rw [hg]; exact (bwZ (by repeat (first | (with_reducible first | exact HB.out | apply bwA | apply bwN | apply bw1) | exact HB.out))) : w.heap.size ≤ gb194)); clear HB; have HB := n0_; have BK194 := n1_; have GW194 := n2_; have GE194 := n3_; clear n0_ n1_ n2_ n3_; clear hb hbox hg) | (go_at_call 13; (with_reducible refine (culletlaw16_awake.calls k  true _ A3.out).mono ?_); rintro e w40 ⟨rfl, hb⟩; have n0_ := Z0.mk (bkB (g := gb194) (o := .cells #[.int .i64 a0_0, .int .i64 a0_1, .int .i64 a0_2] 32 (0, 0)) (by (with_reducible repeat (first | refine bkN ?_ _ | refine bkD ?_ | refine bkA ?_ _)); exact BK194.out) hb); have n1_ := Z0.mk (bwT (by repeat (first | (with_reducible first | exact HB.out | apply bwA | apply bwN | apply bw1 | refine bwS ?_ GE194.out) | exact HB.out)) hb); clear BK194; clear HB; have BK194 := n0_; have HB := n1_; clear n0_ n1_; (try clear hb); (try clear hb2); (try clear hk); (try clear hi); have hcz41_0 : w40.cell? ⟨gb194, 0, none⟩ = some (.int .i64 a0_0) := (bkC BK194.out 0).trans rfl; have hcz41_1 : w40.cell? ⟨gb194, 1, none⟩ = some (.int .i64 a0_1) := (bkC BK194.out 1).trans rfl; have hcz41_2 : w40.cell? ⟨gb194, 2, none⟩ = some (.int .i64 a0_2) := (bkC BK194.out 2).trans rfl; have hfz41_0 := bkF BK194.out 0; have hfz41_1 := bkF BK194.out 1; have hfz41_2 := bkF BK194.out 2) | (go_at_call 16; (refine (culletlaw16_great.calls k 0 a0_0 a0_1 a0_2 0 _ _ ([] : List (List Int)) _ _ ([] : List (List Int)) _ _ l1 false _ ?side1 ?side2 ?side3 ?side4 ?side5 ?side6 A5.out).mono ?_); (case side1 => exact Kd.C_nil _ _); (case side2 => exact Nat.le_refl _); (case side3 => exact Kd.C_nil _ _); (case side4 => exact Nat.le_refl _); (case side5 => repeat (first | exact (Kd.C_below HR1.out HB.out) | (with_reducible refine Kd.C_alloc ?_ _) | (with_reducible refine Kd.C_drewN ?_ _) | (with_reducible refine Kd.C_drew ?_))); (case side6 => exact HC1.out); rintro e w42 ⟨rfl, hb⟩; have n0_ := Z0.mk (bkB (g := gb194) (o := .cells #[.int .i64 a0_0, .int .i64 a0_1, .int .i64 a0_2] 32 (0, 0)) (by (with_reducible repeat (first | refine bkN ?_ _ | refine bkD ?_ | refine bkA ?_ _)); exact BK194.out) hb); have n1_ := Z0.mk (bwT (by repeat (first | (with_reducible first | exact HB.out | apply bwA | apply bwN | apply bw1 | refine bwS ?_ GE194.out) | exact HB.out)) hb); clear BK194; clear HB; have BK194 := n0_; have HB := n1_; clear n0_ n1_; (try clear hb); (try clear hb2); (try clear hk); (try clear hi)) | (go_at_call 15; (with_reducible refine (shape_Length.calls k a0_0 a0_1 a0_2 (l1.length : Int) t197 t198 _ A11.out).mono ?_); rintro e w' ⟨rfl, ⟨nd, rfl⟩⟩; (try first | exact ⟨rfl, _, World.drewN_drewN _ _ _⟩ | exact ⟨rfl, _, Eq.trans (World.drewN_drewN _ _ _) (congrArg (World.drewN _) (Nat.add_assoc _ _ _))⟩)) | ((with_reducible refine gate_dst (N := 46) rfl ?_); (try (refine gate_guard (by rfl) ?_; dsimp only)); refine Kd.R_lit (Kd.int .u8) _ 5 ?hg (N := 46) ?hd (xs := ([] : List Int)) (inner := []) (ok := fun _ => True) (okp := fun _ => True) ?hr ?hp (fun _ hk => hk) trivial (Below.refl _ _) (Nat.le_refl _) (by simp) ?_; (case hd => rfl); (case hg => rfl); (case hr => first | (go_simp; done) | (go_simp; rfl)); (case hp => exact (Reps.none _ _)); intro v200 w43 ho44 hb hg_ hnew_; clear hg_ hnew_; (first | rw [← Ny199.out] at ho44 | (simp only [Int.reduceToNat] at ho44; rw [← Ny199.out] at ho44)); have n0_ := Z0.mk (Kd.R_lower ho44 (bwZ (by repeat (first | (with_reducible first | exact HB.out | apply bwA | apply bwN | apply bw1 | refine bwS ?_ GE194.out) | exact HB.out)))); have n1_ := Z0.mk (bkB (g := gb194) (o := .cells #[.int .i64 a0_0, .int .i64 a0_1, .int .i64 a0_2] 32 (0, 0)) (by (with_reducible repeat (first | refine bkN ?_ _ | refine bkD ?_ | refine bkA ?_ _)); exact BK194.out) hb); have n2_ := Z0.mk (bwT (by repeat (first | (with_reducible first | exact HB.out | apply bwA | apply bwN | apply bw1 | refine bwS ?_ GE194.out) | exact HB.out)) hb); clear BK194; clear HB; have HO201 := n0_; have BK194 := n1_; have HB := n2_; clear n0_ n1_ n2_; clear hb ho44) | ((with_reducible refine gate_builtin (b := .append) (xs := #[.tmp 46, .tmp 47]) rfl ?_); (try (refine gate_guard (by rfl) ?_; dsimp only)); at_builtin; refine Kd.R_append_rows (Kd.int .u8) (w0 := w) w.heap.size rfl (.tmp 46) (.tmp 47) 27 5 (.int .u8 0) 1 rfl Try.underlying27 info5 rfl (by decide) (by omega) v200 y199 l1 _ _ _ (fun _ => True) (fun _ => False) rfl rfl ?aO ?aR (fun _ _ h => h) (fun _ h => h.elim) ?aF ?aB ?aS ?aL ?_; (case aR => repeat (first | exact (Kd.C_below HR1.out HB.out) | (with_reducible refine Kd.C_alloc ?_ _) | (with_reducible refine Kd.C_drewN ?_ _) | (with_reducible refine Kd.C_drew ?_))); (case aB => exact (by repeat (first | (with_reducible first | exact HB.out | apply bwA | apply bwN | apply bw1 | refine bwS ?_ GE194.out) | exact HB.out))); (case aF => exact (fun _ _ => trivial)); (case aO => exact (by (with_reducible repeat (first | apply Kd.R_alloc | apply Kd.R_drewN | apply Kd.R_drew)); exact HO201.out)); (case aS => exact (bwZ (by repeat (first | (with_reducible first | exact HB.out | apply bwA | apply bwN | apply bw1 | refine bwS ?_ GE194.out) | exact HB.out)))); (case aL => have := LMc12.out; omega); intro v203 w45 ho hb hg hat; rw [← Ny202.out] at ho; have n0_ := Z0.mk (blk_grown (g := gb194) (o := .cells #[.int .i64 a0_0, .int .i64 a0_1, .int .i64 a0_2] 32 (0, 0)) (by (with_reducible repeat (first | refine bkN ?_ _ | refine bkD ?_ | refine bkA ?_ _)); exact BK194.out) hg (Kd.R_ne HO201.out BK194.out (by decide))); have n1_ := Z0.mk (hb); have n2_ := Z0.mk (ho); clear BK194; clear HB; clear HO201; have BK194 := n0_; have HB := n1_; have HO204 := n2_; clear n0_ n1_ n2_; clear ho hb hg hat; obtain ⟨Ao46, co46, eo46⟩ := Kd.R_slice HO204.out; subst eo46) | (go_at_call 12; (with_reducible refine (shape_Split.calls k a0_0 a0_1 a0_2 _ _ y202 t205 t206 _ ?side1 ?side2 A13.out).mono ?_); (case side1 => repeat (first | exact (Kd.R_reads' HO204.out).2.2 | (with_reducible refine Kd.C_alloc ?_ _) | (with_reducible refine Kd.C_drewN ?_ _) | (with_reducible refine Kd.C_drew ?_))); (case side2 => exact (Kd.R_reads' HO204.out).2.1); rintro e w47 ⟨v207, rfl, ho0, hb⟩; have n0_ := Z0.mk (Kd.R_below (by (with_reducible repeat (first | apply Kd.R_alloc | apply Kd.R_drewN | apply Kd.R_drew)); exact HO204.out) hb); have n1_ := Z0.mk (Kd.S_lower (Kd.S_new' ho0 (Kd.R_lt (by (with_reducible repeat (first | apply Kd.R_alloc | apply Kd.R_drewN | apply Kd.R_drew)); exact HO204.out))) (bwZ (by repeat (first | (with_reducible first | exact HB.out | apply bwA | apply bwN | apply bw1 | refine bwS ?_ GE194.out) | exact HB.out)))); have n2_ := Z0.mk (bkB (g := gb194) (o := .cells #[.int .i64 a0_0, .int .i64 a0_1, .int .i64 a0_2] 32 (0, 0)) (by (with_reducible repeat (first | refine bkN ?_ _ | refine bkD ?_ | refine bkA ?_ _)); exact BK194.out) hb); have n3_ := Z0.mk (bwT (by repeat (first | (with_reducible first | exact HB.out | apply bwA | apply bwN | apply bw1 | refine bwS ?_ GE194.out) | exact HB.out)) hb); clear HO204; clear BK194; clear HB; have HO204 := n0_; have HO208 := n1_; have BK194 := n2_; have HB := n3_; clear n0_ n1_ n2_ n3_; (try clear hb); (try clear hb2); (try clear hk); (try clear hi); (try clear ho0); obtain ⟨Ao48, co48, eo48⟩ := Kd.S_slice HO208.out; subst eo48) | (go_at_call 17; (with_reducible refine (shape_Whole.calls k a0_0 a0_1 a0_2 _ _ t205 t209 t210 _ ?side1 ?side2 A37.out).mono ?_); (case side1 => repeat (first | exact (Kd.S_reads' HO208.out).2.2 | (with_reducible refine Kd.C_alloc ?_ _) | (with_reducible refine Kd.C_drewN ?_ _) | (with_reducible refine Kd.C_drew ?_))); (case side2 => exact (Kd.S_reads' HO208.out).2.1); rintro e w49 ⟨rfl, hb⟩; have n0_ := Z0.mk (Kd.R_below (by (with_reducible repeat (first | apply Kd.R_alloc | apply Kd.R_drewN | apply Kd.R_drew)); exact HO204.out) hb); have n1_ := Z0.mk (Kd.S_below (by (with_reducible repeat (first | apply Kd.S_alloc | apply Kd.S_drewN | apply Kd.S_drew)); exact HO208.out) hb); have n2_ := Z0.mk (bkB (g := gb194) (o := .cells #[.int .i64 a0_0, .int .i64 a0_1, .int .i64 a0_2] 32 (0, 0)) (by (with_reducible repeat (first | refine bkN ?_ _ | refine bkD ?_ | refine bkA ?_ _)); exact BK194.out) hb); have n3_ := Z0.mk (bwT (by repeat (first | (with_reducible first | exact HB.out | apply bwA | apply bwN | apply bw1 | refine bwS ?_ GE194.out) | exact HB.out)) hb); clear HO204; clear HO208; clear BK194; clear HB; have HO204 := n0_; have HO208 := n1_; have BK194 := n2_; have HB := n3_; clear n0_ n1_ n2_ n3_; (try clear hb); (try clear hb2); (try clear hk); (try clear hi))))
              (try simp only [Act.put, List.setIfInBounds_toArray, List.set_cons_zero, List.set_cons_succ])
              go_cut [101] (fun v101 wc => ∃ (kq : Nat) (x101_37 : Bool), v101 = .bool x101_37 ∧ Z0 (culletlaw16_ShapeBack.j0 kq l1 a0_0 a0_1 a0_2 t197 t205 x101_37 = some r) ∧ Z0 (kq ≤ k) ∧ Z0 (Kd.S (Kd.slice 5 (Kd.int .u8)) 27 wc w.heap.size (fun _ => True) (.slice Ao48 t205.length co48) t205) ∧ Z0 (wc.heap[gb194]? = some (.cells #[.int .i64 a0_0, .int .i64 a0_1, .int .i64 a0_2] 32 (0, 0))) ∧ Z0 (Below w.heap.size w wc))
              case first =>
                have H := HC38.out
                clear HC38
                by_cases c50 : t206 = 0
                · rw [if_pos c50] at H
                  have c50b0 : (t206 == 0) = true := beq_iff_eq.mpr c50
                  have c50b1 : (t206 != 0) = false := bne_eq_false_iff_eq.mpr c50
                  clear c50
                  (first | rw [c50b0] | (simp only [i64_w, i32_w]; rw [c50b0]) | skip)
                  by_cases c51 : t210 = 0
                  · rw [if_pos c51] at H
                    have c51b0 : (t210 == 0) = true := beq_iff_eq.mpr c51
                    have c51b1 : (t210 != 0) = false := bne_eq_false_iff_eq.mpr c51
                    clear c51
                    by_cases c52 : t209 = t197
                    · rw [if_pos c52] at H
                      have c52b0 : (t209 == t197) = true := beq_iff_eq.mpr c52
                      have c52b1 : (t209 != t197) = false := bne_eq_false_iff_eq.mpr c52
                      clear c52
                      have H' := Z0.mk H
                      clear H
                      go_wp2
                      repeat (go_quiet (fail); try go_wp2)
                      go_meet
                      case rel => exact ⟨_, (((t205.length : Int) != (wrap64 (a0_1 + a0_2)))), (by first | rfl | (simp; done) | (simp [*]; done)), H', ⟨by first | omega | exact Nat.le_refl _⟩, ⟨by (with_reducible repeat (first | apply Kd.S_alloc | apply Kd.S_drewN | apply Kd.S_drew)); exact Kd.S_mono HO208.out (fun _ hk => trivial)⟩, ⟨by (with_reducible repeat (first | refine bkN ?_ _ | refine bkD ?_ | refine bkA ?_ _)); exact BK194.out⟩, ⟨by repeat (first | (with_reducible first | exact HB.out | apply bwA | apply bwN | apply bw1 | refine bwS ?_ GE194.out) | exact HB.out)⟩⟩
                    · rw [if_neg c52] at H
                      have c52b0 : (t209 == t197) = false := beq_eq_false_iff_ne.mpr c52
                      have c52b1 : (t209 != t197) = true := bne_iff_ne.mpr c52
                      have H' := Z0.mk H
                      clear H
                      go_wp2
                      repeat (go_quiet (fail); try go_wp2)
                      go_meet
                      case rel => exact ⟨_, (true), (by first | rfl | (simp; done) | (simp [*]; done)), H', ⟨by first | omega | exact Nat.le_refl _⟩, ⟨by (with_reducible repeat (first | apply Kd.S_alloc | apply Kd.S_drewN | apply Kd.S_drew)); exact Kd.S_mono HO208.out (fun _ hk => trivial)⟩, ⟨by (with_reducible repeat (first | refine bkN ?_ _ | refine bkD ?_ | refine bkA ?_ _)); exact BK194.out⟩, ⟨by repeat (first | (with_reducible first | exact HB.out | apply bwA | apply bwN | apply bw1 | refine bwS ?_ GE194.out) | exact HB.out)⟩⟩
                  · rw [if_neg c51] at H
                    have c51b0 : (t210 == 0) = false := beq_eq_false_iff_ne.mpr c51
                    have c51b1 : (t210 != 0) = true := bne_iff_ne.mpr c51
                    have H' := Z0.mk H
                    clear H
                    go_wp2
                    repeat (go_quiet (fail); try go_wp2)
                    go_meet
                    case rel => exact ⟨_, (true), (by first | rfl | (simp; done) | (simp [*]; done)), H', ⟨by first | omega | exact Nat.le_refl _⟩, ⟨by (with_reducible repeat (first | apply Kd.S_alloc | apply Kd.S_drewN | apply Kd.S_drew)); exact Kd.S_mono HO208.out (fun _ hk => trivial)⟩, ⟨by (with_reducible repeat (first | refine bkN ?_ _ | refine bkD ?_ | refine bkA ?_ _)); exact BK194.out⟩, ⟨by repeat (first | (with_reducible first | exact HB.out | apply bwA | apply bwN | apply bw1 | refine bwS ?_ GE194.out) | exact HB.out)⟩⟩
                · rw [if_neg c50] at H
                  have c50b0 : (t206 == 0) = false := beq_eq_false_iff_ne.mpr c50
                  have c50b1 : (t206 != 0) = true := bne_iff_ne.mpr c50
                  (first | rw [c50b0] | (simp only [i64_w, i32_w]; rw [c50b0]) | skip)
                  have H' := Z0.mk H
                  clear H
                  go_wp2
                  repeat (go_quiet (fail); try go_wp2)
                  go_meet
                  case rel => exact ⟨_, (true), (by first | rfl | (simp; done) | (simp [*]; done)), H', ⟨by first | omega | exact Nat.le_refl _⟩, ⟨by (with_reducible repeat (first | apply Kd.S_alloc | apply Kd.S_drewN | apply Kd.S_drew)); exact Kd.S_mono HO208.out (fun _ hk => trivial)⟩, ⟨by (with_reducible repeat (first | refine bkN ?_ _ | refine bkD ?_ | refine bkA ?_ _)); exact BK194.out⟩, ⟨by repeat (first | (with_reducible first | exact HB.out | apply bwA | apply bwN | apply bw1 | refine bwS ?_ GE194.out) | exact HB.out)⟩⟩
              case rest =>
                clear HC38
                try clear c1
                try clear p2
                try clear c4
                try clear c5
                try clear c6
                try clear p6
                try clear c12
                try clear c14
                try clear c14b0
                try clear c14b1
                try clear c15
                try clear c15b0
                try clear c15b1
                try clear c16
                try clear c16b0
                try clear c17
                try clear c17b0
                try clear c17b1
                try clear c50
                try clear c50b0
                try clear c50b1
                try clear c51
                try clear c51b0
                try clear c51b1
                try clear c52
                try clear c52b0
                try clear c52b1
                try clear hcz20_0
                try clear hcz20_1
                try clear hcz20_2
                try clear hcz30_0
                try clear hcz30_1
                try clear hcz30_2
                try clear hcz41_0
                try clear hcz41_1
                try clear hcz41_2
                try clear hcz9_0
                try clear hcz9_1
                try clear hcz9_2
                try clear hfz20_0
                try clear hfz20_1
                try clear hfz20_2
                try clear hfz30_0
                try clear hfz30_1
                try clear hfz30_2
                try clear hfz41_0
                try clear hfz41_1
                try clear hfz41_2
                try clear hfz9_0
                try clear hfz9_1
                try clear hfz9_2
                obtain ⟨kq, x101_37, rfl, HA, HJ37, HO_10, BK194, HB⟩ := hcut
                cases kq with
                | zero => exact absurd HA.out (by simp [culletlaw16_ShapeBack.j0])
                | succ kj37 =>
                  have H := HA.out
                  clear HA
                  simp only [culletlaw16_ShapeBack.j0] at H
                  by_cases c53 : x101_37 = true
                  · subst c53
                    have H1 : (some false) = some r := by rw [if_pos rfl] at H; exact H
                    clear H
                    have H := H1
                    clear H1
                    obtain rfl := Option.some.inj H
                    go_wp2
                    repeat (go_quiet (fail); try go_wp2)
                    go_ret
                    exact ⟨by first | rfl | (simp [ewN, ewS] <;> rfl) | (simp [*, ewN, ewS] <;> rfl), by repeat (first | (with_reducible first | exact HB.out | apply bwA | apply bwN | apply bw1 | refine bwS ?_ GE194.out) | exact HB.out)⟩
                  · replace c53 := Bool.eq_false_iff.mpr c53
                    subst c53
                    have H1 : ((shape_Join.f kj37 a0_0 a0_1 a0_2 t205 (l1.length : Int)).bind fun bt211 => (if bt211.2 = 0 then ((culletlaw16_sameBytes.f kj37 bt211.1 l1).bind fun t215 => (if t215 = true then (culletlaw16_ShapeBack.j1 kj37 l1 a0_0 a0_1 a0_2 t197 t205 ((t205.length : Int) != (wrap64 (a0_1 + a0_2)))) else (culletlaw16_ShapeBack.j1 kj37 l1 a0_0 a0_1 a0_2 t197 t205 true))) else (culletlaw16_ShapeBack.j1 kj37 l1 a0_0 a0_1 a0_2 t197 t205 true))) = some r := by rw [if_neg (show ¬ (false = true) by decide)] at H; exact H
                    clear H
                    have H := H1
                    clear H1
                    replace H := Option.bind_eq_some_iff.mp H
                    obtain ⟨⟨t211, t212⟩, A540, H⟩ := H
                    dsimp only at H
                    have A54 := Z0.mk A540
                    clear A540
                    have HC55 := Z0.mk H
                    clear H
                    go_upto_region 16 with (first | (go_at_call 18; (with_reducible refine (shape_Join.calls kj37 a0_0 a0_1 a0_2 _ _ t205 (l1.length : Int) t211 t212 _ ?side1 ?side2 A54.out).mono ?_); (case side1 => repeat (first | exact (Kd.S_reads' HO_10.out).2.2 | (with_reducible refine Kd.C_alloc ?_ _) | (with_reducible refine Kd.C_drewN ?_ _) | (with_reducible refine Kd.C_drew ?_))); (case side2 => exact (Kd.S_reads' HO_10.out).2.1); rintro e w56 ⟨v213, rfl, ho0, hb⟩; have n0_ := Z0.mk (Kd.S_elder' (by (with_reducible repeat (first | apply Kd.S_alloc | apply Kd.S_drewN | apply Kd.S_drew)); exact HO_10.out) (Kd.R_base ho0) hb); have n1_ := Z0.mk (Kd.R_lower ho0 (bwZ (by repeat (first | (with_reducible first | exact HB.out | apply bwA | apply bwN | apply bw1 | refine bwS ?_ GE194.out) | exact HB.out)))); have n2_ := Z0.mk (bkB (g := gb194) (o := .cells #[.int .i64 a0_0, .int .i64 a0_1, .int .i64 a0_2] 32 (0, 0)) (by (with_reducible repeat (first | refine bkN ?_ _ | refine bkD ?_ | refine bkA ?_ _)); exact BK194.out) hb); have n3_ := Z0.mk (bwT (by repeat (first | (with_reducible first | exact HB.out | apply bwA | apply bwN | apply bw1 | refine bwS ?_ GE194.out) | exact HB.out)) hb); clear HO_10; clear BK194; clear HB; have HO_10 := n0_; have HO214 := n1_; have BK194 := n2_; have HB := n3_; clear n0_ n1_ n2_ n3_; (try clear hb); (try clear hb2); (try clear hk); (try clear hi); (try clear ho0)))
                    repeat (go_quiet (first | (go_at_call 18; (with_reducible refine (shape_Join.calls kj37 a0_0 a0_1 a0_2 _ _ t205 (l1.length : Int) t211 t212 _ ?side1 ?side2 A54.out).mono ?_); (case side1 => repeat (first | exact (Kd.S_reads' HO_10.out).2.2 | (with_reducible refine Kd.C_alloc ?_ _) | (with_reducible refine Kd.C_drewN ?_ _) | (with_reducible refine Kd.C_drew ?_))); (case side2 => exact (Kd.S_reads' HO_10.out).2.1); rintro e w56 ⟨v213, rfl, ho0, hb⟩; have n0_ := Z0.mk (Kd.S_elder' (by (with_reducible repeat (first | apply Kd.S_alloc | apply Kd.S_drewN | apply Kd.S_drew)); exact HO_10.out) (Kd.R_base ho0) hb); have n1_ := Z0.mk (Kd.R_lower ho0 (bwZ (by repeat (first | (with_reducible first | exact HB.out | apply bwA | apply bwN | apply bw1 | refine bwS ?_ GE194.out) | exact HB.out)))); have n2_ := Z0.mk (bkB (g := gb194) (o := .cells #[.int .i64 a0_0, .int .i64 a0_1, .int .i64 a0_2] 32 (0, 0)) (by (with_reducible repeat (first | refine bkN ?_ _ | refine bkD ?_ | refine bkA ?_ _)); exact BK194.out) hb); have n3_ := Z0.mk (bwT (by repeat (first | (with_reducible first | exact HB.out | apply bwA | apply bwN | apply bw1 | refine bwS ?_ GE194.out) | exact HB.out)) hb); clear HO_10; clear BK194; clear HB; have HO_10 := n0_; have HO214 := n1_; have BK194 := n2_; have HB := n3_; clear n0_ n1_ n2_ n3_; (try clear hb); (try clear hb2); (try clear hk); (try clear hi); (try clear ho0))); go_upto_region 16 with (first | (go_at_call 18; (with_reducible refine (shape_Join.calls kj37 a0_0 a0_1 a0_2 _ _ t205 (l1.length : Int) t211 t212 _ ?side1 ?side2 A54.out).mono ?_); (case side1 => repeat (first | exact (Kd.S_reads' HO_10.out).2.2 | (with_reducible refine Kd.C_alloc ?_ _) | (with_reducible refine Kd.C_drewN ?_ _) | (with_reducible refine Kd.C_drew ?_))); (case side2 => exact (Kd.S_reads' HO_10.out).2.1); rintro e w56 ⟨v213, rfl, ho0, hb⟩; have n0_ := Z0.mk (Kd.S_elder' (by (with_reducible repeat (first | apply Kd.S_alloc | apply Kd.S_drewN | apply Kd.S_drew)); exact HO_10.out) (Kd.R_base ho0) hb); have n1_ := Z0.mk (Kd.R_lower ho0 (bwZ (by repeat (first | (with_reducible first | exact HB.out | apply bwA | apply bwN | apply bw1 | refine bwS ?_ GE194.out) | exact HB.out)))); have n2_ := Z0.mk (bkB (g := gb194) (o := .cells #[.int .i64 a0_0, .int .i64 a0_1, .int .i64 a0_2] 32 (0, 0)) (by (with_reducible repeat (first | refine bkN ?_ _ | refine bkD ?_ | refine bkA ?_ _)); exact BK194.out) hb); have n3_ := Z0.mk (bwT (by repeat (first | (with_reducible first | exact HB.out | apply bwA | apply bwN | apply bw1 | refine bwS ?_ GE194.out) | exact HB.out)) hb); clear HO_10; clear BK194; clear HB; have HO_10 := n0_; have HO214 := n1_; have BK194 := n2_; have HB := n3_; clear n0_ n1_ n2_ n3_; (try clear hb); (try clear hb2); (try clear hk); (try clear hi); (try clear ho0))))
                    (try simp only [Act.put, List.setIfInBounds_toArray, List.set_cons_zero, List.set_cons_succ])
                    go_cut [127] (fun v127 wc => ∃ (kq : Nat) (x127_54 : Bool), v127 = .bool x127_54 ∧ Z0 (culletlaw16_ShapeBack.j1 kq l1 a0_0 a0_1 a0_2 t197 t205 x127_54 = some r) ∧ Z0 (kq ≤ kj37) ∧ Z0 (Kd.S (Kd.slice 5 (Kd.int .u8)) 27 wc w.heap.size (fun _ => True) (.slice Ao48 t205.length co48) t205) ∧ Z0 (wc.heap[gb194]? = some (.cells #[.int .i64 a0_0, .int .i64 a0_1, .int .i64 a0_2] 32 (0, 0))) ∧ Z0 (Below w.heap.size w wc))
                    case first =>
                      have H := HC55.out
                      clear HC55
                      by_cases c57 : t212 = 0
                      · rw [if_pos c57] at H
                        have c57b0 : (t212 == 0) = true := beq_iff_eq.mpr c57
                        have c57b1 : (t212 != 0) = false := bne_eq_false_iff_eq.mpr c57
                        clear c57
                        (first | rw [c57b0] | (simp only [i64_w, i32_w]; rw [c57b0]) | skip)
                        replace H := Option.bind_eq_some_iff.mp H
                        obtain ⟨t215, A580, H⟩ := H
                        try dsimp only at H
                        have A58 := Z0.mk A580
                        clear A580
                        by_cases c59 : t215 = true
                        · subst c59
                          have H1 : (culletlaw16_ShapeBack.j1 kj37 l1 a0_0 a0_1 a0_2 t197 t205 ((t205.length : Int) != (wrap64 (a0_1 + a0_2)))) = some r := by rw [if_pos rfl] at H; exact H
                          clear H
                          have H := H1
                          clear H1
                          have H' := Z0.mk H
                          clear H
                          obtain ⟨Ao60, co60, eo60⟩ := Kd.R_slice HO214.out
                          subst eo60
                          go_wp2_with (first | (go_at_call 19; (with_reducible refine (culletlaw16_sameBytes.calls kj37 _ _ t211 _ _ l1 true _ ?side1 ?side2 ?side3 ?side4 A58.out).mono ?_); (case side1 => repeat (first | exact (Kd.R_reads' HO214.out).2.2 | (with_reducible refine Kd.C_alloc ?_ _) | (with_reducible refine Kd.C_drewN ?_ _) | (with_reducible refine Kd.C_drew ?_))); (case side2 => exact (Kd.R_reads' HO214.out).2.1); (case side3 => repeat (first | exact (Kd.C_below HR1.out HB.out) | (with_reducible refine Kd.C_alloc ?_ _) | (with_reducible refine Kd.C_drewN ?_ _) | (with_reducible refine Kd.C_drew ?_))); (case side4 => exact HC1.out); rintro e w' ⟨rfl, ⟨nd, rfl⟩⟩; (try first | exact ⟨rfl, _, World.drewN_drewN _ _ _⟩ | exact ⟨rfl, _, Eq.trans (World.drewN_drewN _ _ _) (congrArg (World.drewN _) (Nat.add_assoc _ _ _))⟩)))
                          repeat (go_quiet (first | (go_at_call 19; (with_reducible refine (culletlaw16_sameBytes.calls kj37 _ _ t211 _ _ l1 true _ ?side1 ?side2 ?side3 ?side4 A58.out).mono ?_); (case side1 => repeat (first | exact (Kd.R_reads' HO214.out).2.2 | (with_reducible refine Kd.C_alloc ?_ _) | (with_reducible refine Kd.C_drewN ?_ _) | (with_reducible refine Kd.C_drew ?_))); (case side2 => exact (Kd.R_reads' HO214.out).2.1); (case side3 => repeat (first | exact (Kd.C_below HR1.out HB.out) | (with_reducible refine Kd.C_alloc ?_ _) | (with_reducible refine Kd.C_drewN ?_ _) | (with_reducible refine Kd.C_drew ?_))); (case side4 => exact HC1.out); rintro e w' ⟨rfl, ⟨nd, rfl⟩⟩; (try first | exact ⟨rfl, _, World.drewN_drewN _ _ _⟩ | exact ⟨rfl, _, Eq.trans (World.drewN_drewN _ _ _) (congrArg (World.drewN _) (Nat.add_assoc _ _ _))⟩))); try go_wp2_with (first | (go_at_call 19; (with_reducible refine (culletlaw16_sameBytes.calls kj37 _ _ t211 _ _ l1 true _ ?side1 ?side2 ?side3 ?side4 A58.out).mono ?_); (case side1 => repeat (first | exact (Kd.R_reads' HO214.out).2.2 | (with_reducible refine Kd.C_alloc ?_ _) | (with_reducible refine Kd.C_drewN ?_ _) | (with_reducible refine Kd.C_drew ?_))); (case side2 => exact (Kd.R_reads' HO214.out).2.1); (case side3 => repeat (first | exact (Kd.C_below HR1.out HB.out) | (with_reducible refine Kd.C_alloc ?_ _) | (with_reducible refine Kd.C_drewN ?_ _) | (with_reducible refine Kd.C_drew ?_))); (case side4 => exact HC1.out); rintro e w' ⟨rfl, ⟨nd, rfl⟩⟩; (try first | exact ⟨rfl, _, World.drewN_drewN _ _ _⟩ | exact ⟨rfl, _, Eq.trans (World.drewN_drewN _ _ _) (congrArg (World.drewN _) (Nat.add_assoc _ _ _))⟩))))
                          go_meet
                          case rel => exact ⟨_, (((t205.length : Int) != (wrap64 (a0_1 + a0_2)))), (by first | rfl | (simp; done) | (simp [*]; done)), H', ⟨by have := HJ37.out; first | omega | exact Nat.le_refl _⟩, ⟨by (with_reducible repeat (first | apply Kd.S_alloc | apply Kd.S_drewN | apply Kd.S_drew)); exact Kd.S_mono HO_10.out (fun _ hk => trivial)⟩, ⟨by (with_reducible repeat (first | refine bkN ?_ _ | refine bkD ?_ | refine bkA ?_ _)); exact BK194.out⟩, ⟨by repeat (first | (with_reducible first | exact HB.out | apply bwA | apply bwN | apply bw1 | refine bwS ?_ GE194.out) | exact HB.out)⟩⟩
                        · replace c59 := Bool.eq_false_iff.mpr c59
                          subst c59
                          have H1 : (culletlaw16_ShapeBack.j1 kj37 l1 a0_0 a0_1 a0_2 t197 t205 true) = some r := by rw [if_neg (show ¬ (false = true) by decide)] at H; exact H
                          clear H
                          have H := H1
                          clear H1
                          have H' := Z0.mk H
                          clear H
                          obtain ⟨Ao61, co61, eo61⟩ := Kd.R_slice HO214.out
                          subst eo61
                          go_wp2_with (first | (go_at_call 19; (with_reducible refine (culletlaw16_sameBytes.calls kj37 _ _ t211 _ _ l1 false _ ?side1 ?side2 ?side3 ?side4 A58.out).mono ?_); (case side1 => repeat (first | exact (Kd.R_reads' HO214.out).2.2 | (with_reducible refine Kd.C_alloc ?_ _) | (with_reducible refine Kd.C_drewN ?_ _) | (with_reducible refine Kd.C_drew ?_))); (case side2 => exact (Kd.R_reads' HO214.out).2.1); (case side3 => repeat (first | exact (Kd.C_below HR1.out HB.out) | (with_reducible refine Kd.C_alloc ?_ _) | (with_reducible refine Kd.C_drewN ?_ _) | (with_reducible refine Kd.C_drew ?_))); (case side4 => exact HC1.out); rintro e w' ⟨rfl, ⟨nd, rfl⟩⟩; (try first | exact ⟨rfl, _, World.drewN_drewN _ _ _⟩ | exact ⟨rfl, _, Eq.trans (World.drewN_drewN _ _ _) (congrArg (World.drewN _) (Nat.add_assoc _ _ _))⟩)))
                          repeat (go_quiet (first | (go_at_call 19; (with_reducible refine (culletlaw16_sameBytes.calls kj37 _ _ t211 _ _ l1 false _ ?side1 ?side2 ?side3 ?side4 A58.out).mono ?_); (case side1 => repeat (first | exact (Kd.R_reads' HO214.out).2.2 | (with_reducible refine Kd.C_alloc ?_ _) | (with_reducible refine Kd.C_drewN ?_ _) | (with_reducible refine Kd.C_drew ?_))); (case side2 => exact (Kd.R_reads' HO214.out).2.1); (case side3 => repeat (first | exact (Kd.C_below HR1.out HB.out) | (with_reducible refine Kd.C_alloc ?_ _) | (with_reducible refine Kd.C_drewN ?_ _) | (with_reducible refine Kd.C_drew ?_))); (case side4 => exact HC1.out); rintro e w' ⟨rfl, ⟨nd, rfl⟩⟩; (try first | exact ⟨rfl, _, World.drewN_drewN _ _ _⟩ | exact ⟨rfl, _, Eq.trans (World.drewN_drewN _ _ _) (congrArg (World.drewN _) (Nat.add_assoc _ _ _))⟩))); try go_wp2_with (first | (go_at_call 19; (with_reducible refine (culletlaw16_sameBytes.calls kj37 _ _ t211 _ _ l1 false _ ?side1 ?side2 ?side3 ?side4 A58.out).mono ?_); (case side1 => repeat (first | exact (Kd.R_reads' HO214.out).2.2 | (with_reducible refine Kd.C_alloc ?_ _) | (with_reducible refine Kd.C_drewN ?_ _) | (with_reducible refine Kd.C_drew ?_))); (case side2 => exact (Kd.R_reads' HO214.out).2.1); (case side3 => repeat (first | exact (Kd.C_below HR1.out HB.out) | (with_reducible refine Kd.C_alloc ?_ _) | (with_reducible refine Kd.C_drewN ?_ _) | (with_reducible refine Kd.C_drew ?_))); (case side4 => exact HC1.out); rintro e w' ⟨rfl, ⟨nd, rfl⟩⟩; (try first | exact ⟨rfl, _, World.drewN_drewN _ _ _⟩ | exact ⟨rfl, _, Eq.trans (World.drewN_drewN _ _ _) (congrArg (World.drewN _) (Nat.add_assoc _ _ _))⟩))))
                          go_meet
                          case rel => exact ⟨_, (true), (by first | rfl | (simp; done) | (simp [*]; done)), H', ⟨by have := HJ37.out; first | omega | exact Nat.le_refl _⟩, ⟨by (with_reducible repeat (first | apply Kd.S_alloc | apply Kd.S_drewN | apply Kd.S_drew)); exact Kd.S_mono HO_10.out (fun _ hk => trivial)⟩, ⟨by (with_reducible repeat (first | refine bkN ?_ _ | refine bkD ?_ | refine bkA ?_ _)); exact BK194.out⟩, ⟨by repeat (first | (with_reducible first | exact HB.out | apply bwA | apply bwN | apply bw1 | refine bwS ?_ GE194.out) | exact HB.out)⟩⟩
                      · rw [if_neg c57] at H
                        have c57b0 : (t212 == 0) = false := beq_eq_false_iff_ne.mpr c57
                        have c57b1 : (t212 != 0) = true := bne_iff_ne.mpr c57
                        (first | rw [c57b0] | (simp only [i64_w, i32_w]; rw [c57b0]) | skip)
                        have H' := Z0.mk H
                        clear H
                        go_wp2
                        repeat (go_quiet (fail); try go_wp2)
                        go_meet
                        case rel => exact ⟨_, (true), (by first | rfl | (simp; done) | (simp [*]; done)), H', ⟨by have := HJ37.out; first | omega | exact Nat.le_refl _⟩, ⟨by (with_reducible repeat (first | apply Kd.S_alloc | apply Kd.S_drewN | apply Kd.S_drew)); exact Kd.S_mono HO_10.out (fun _ hk => trivial)⟩, ⟨by (with_reducible repeat (first | refine bkN ?_ _ | refine bkD ?_ | refine bkA ?_ _)); exact BK194.out⟩, ⟨by repeat (first | (with_reducible first | exact HB.out | apply bwA | apply bwN | apply bw1 | refine bwS ?_ GE194.out) | exact HB.out)⟩⟩
                    case rest =>
                      clear HC55
                      try clear c1
                      try clear p2
                      try clear c4
                      try clear c5
                      try clear c6
                      try clear p6
                      try clear c12
                      try clear c14
                      try clear c14b0
                      try clear c14b1
                      try clear c15
                      try clear c15b0
                      try clear c15b1
                      try clear c16
                      try clear c16b0
                      try clear c17
                      try clear c17b0
                      try clear c17b1
                      try clear c50
                      try clear c50b0
                      try clear c50b1
                      try clear c51
                      try clear c51b0
                      try clear c51b1
                      try clear c52
                      try clear c52b0
                      try clear c52b1
                      try clear c53
                      try clear c57
                      try clear c57b0
                      try clear c57b1
                      try clear c59
                      try clear hcz20_0
                      try clear hcz20_1
                      try clear hcz20_2
                      try clear hcz30_0
                      try clear hcz30_1
                      try clear hcz30_2
                      try clear hcz41_0
                      try clear hcz41_1
                      try clear hcz41_2
                      try clear hcz9_0
                      try clear hcz9_1
                      try clear hcz9_2
                      try clear hfz20_0
                      try clear hfz20_1
                      try clear hfz20_2
                      try clear hfz30_0
                      try clear hfz30_1
                      try clear hfz30_2
                      try clear hfz41_0
                      try clear hfz41_1
                      try clear hfz41_2
                      try clear hfz9_0
                      try clear hfz9_1
                      try clear hfz9_2
                      try clear p2
                      try clear p6
                      obtain ⟨kq, x127_54, rfl, HA, HJ54, HO_10, BK194, HB⟩ := hcut
                      cases kq with
                      | zero => exact absurd HA.out (by simp [culletlaw16_ShapeBack.j1])
                      | succ kj54 =>
                        have H := HA.out
                        clear HA
                        simp only [culletlaw16_ShapeBack.j1] at H
                        by_cases c62 : x127_54 = true
                        · subst c62
                          have H1 : (some false) = some r := by rw [if_pos rfl] at H; exact H
                          clear H
                          have H := H1
                          clear H1
                          obtain rfl := Option.some.inj H
                          go_wp2
                          repeat (go_quiet (fail); try go_wp2)
                          go_ret
                          exact ⟨by first | rfl | (simp [ewN, ewS] <;> rfl) | (simp [*, ewN, ewS] <;> rfl), by repeat (first | (with_reducible first | exact HB.out | apply bwA | apply bwN | apply bw1 | refine bwS ?_ GE194.out) | exact HB.out)⟩
                        · replace c62 := Bool.eq_false_iff.mpr c62
                          subst c62
                          have H1 : (if 0 ≤ a0_1 then (if a0_1 ≤ (t205.length : Int) then ((shape_Join.f kj54 a0_0 a0_1 a0_2 (t205.take (a0_1 : Int).toNat) (wrap64 (a0_1 * t197))).bind fun bt220 => (if bt220.2 = 0 then (culletlaw16_ShapeBack.j2 kj54 l1 a0_0 a0_1 a0_2 t197 t205 bt220.1 ((bt220.1.length : Int) != (wrap64 (a0_1 * t197)))) else (culletlaw16_ShapeBack.j2 kj54 l1 a0_0 a0_1 a0_2 t197 t205 bt220.1 true))) else (none)) else (none)) = some r := by rw [if_neg (show ¬ (false = true) by decide)] at H; exact H
                          clear H
                          have H := H1
                          clear H1
                          by_cases c63 : 0 ≤ a0_1
                          · rw [if_pos c63] at H
                            have c63b0 := eq_true c63
                            have c63b1 : decide (0 ≤ a0_1) = true := decide_eq_true c63
                            clear c63
                            by_cases c64 : a0_1 ≤ (t205.length : Int)
                            · rw [if_pos c64] at H
                              have c64b0 := eq_true c64
                              have c64b1 : decide (a0_1 ≤ (t205.length : Int)) = true := decide_eq_true c64
                              clear c64
                              obtain ⟨y216, hy216⟩ : ∃ y_ : List (List Int), y_ = (t205.take (a0_1 : Int).toNat) := ⟨_, rfl⟩
                              replace H : ((shape_Join.f kj54 a0_0 a0_1 a0_2 y216 (wrap64 (a0_1 * t197))).bind fun bt220 => (if bt220.2 = 0 then (culletlaw16_ShapeBack.j2 kj54 l1 a0_0 a0_1 a0_2 t197 t205 bt220.1 ((bt220.1.length : Int) != (wrap64 (a0_1 * t197)))) else (culletlaw16_ShapeBack.j2 kj54 l1 a0_0 a0_1 a0_2 t197 t205 bt220.1 true))) = some r := by first | (rw [hy216]; with_reducible exact H) | (have H2_ := (Option.bind_some _ _).symm.trans H; rw [hy216]; with_reducible exact H2_) | (have H2_ := (Option.bind_some _ _).symm.trans H; with_reducible exact H2_) | with_reducible exact H | (rw [hy216]; exact H) | exact H
                              have Ny216 := Z0.mk hy216
                              clear hy216
                              replace H := Option.bind_eq_some_iff.mp H
                              obtain ⟨⟨t220, t221⟩, A650, H⟩ := H
                              dsimp only at H
                              have A65 := Z0.mk A650
                              clear A650
                              have HC66 := Z0.mk H
                              clear H
                              have q67 : (a0_1 : Int) ≤ ((t205.length : Int) : Int) := of_decide_eq_true (by first | (with_reducible assumption) | assumption)
                              obtain ⟨i067, hi067, _, hsz67, _⟩ := info_parts info27
                              have hroom67 : t205.length ≤ co48 := (Kd.S_reads' HO_10.out).2.1
                              have hC67 : Kd.C (Kd.slice 5 (Kd.int .u8)) _ Ao48 t205.length t205 := (Kd.S_reads' HO_10.out).2.2
                              have hcut67 := cut_to (P := Try.prog) 22 27 .i64 Try.underlying22 hi067 Ao48 t205.length co48 a0_1 (of_decide_eq_true (by first | (with_reducible assumption) | assumption)) q67 hroom67
                              have hr67 := Kd.C_take (m := (a0_1 : Int).toNat) hC67 (by omega)
                              have hy67 : y216.length = (a0_1 : Int).toNat := (by rw [Ny216.out, List.length_take]; omega)
                              rw [← Ny216.out] at hr67
                              rw [← hy67] at hcut67
                              have HR219 := Z0.mk hr67
                              have HC219 := Z0.mk (show y216.length ≤ co48 from by omega)
                              clear hr67 hC67 hroom67 hi067 hsz67
                              have KY67 := Z0.mk hy67
                              clear hy67
                              have KL67 := Z0.mk (show (a0_1 : Int).toNat ≤ t205.length from by omega)
                              replace q67 := eq_true q67
                              go_upto_region 19 with (first | (go_at_call 18; (with_reducible refine (shape_Join.calls kj54 a0_0 a0_1 a0_2 _ _ y216 (wrap64 (a0_1 * t197)) t220 t221 _ ?side1 ?side2 A65.out).mono ?_); (case side1 => repeat (first | exact (by repeat (first | (with_reducible exact HR219.out) | (with_reducible refine Kd.C_alloc ?_ _) | (with_reducible refine Kd.C_drewN ?_ _) | (with_reducible refine Kd.C_drew ?_) | exact HR219.out)) | (with_reducible refine Kd.C_alloc ?_ _) | (with_reducible refine Kd.C_drewN ?_ _) | (with_reducible refine Kd.C_drew ?_))); (case side2 => exact HC219.out); rintro e w68 ⟨v222, rfl, ho0, hb⟩; have n0_ := Z0.mk (Kd.S_elder' (by (with_reducible repeat (first | apply Kd.S_alloc | apply Kd.S_drewN | apply Kd.S_drew)); exact HO_10.out) (Kd.R_base ho0) hb); have n1_ := Z0.mk (Kd.R_lower ho0 (bwZ (by repeat (first | (with_reducible first | exact HB.out | apply bwA | apply bwN | apply bw1 | refine bwS ?_ GE194.out) | exact HB.out)))); have n2_ := Z0.mk (bkB (g := gb194) (o := .cells #[.int .i64 a0_0, .int .i64 a0_1, .int .i64 a0_2] 32 (0, 0)) (by (with_reducible repeat (first | refine bkN ?_ _ | refine bkD ?_ | refine bkA ?_ _)); exact BK194.out) hb); have n3_ := Z0.mk (Kd.C_below (by repeat (first | (with_reducible exact HR219.out) | (with_reducible refine Kd.C_alloc ?_ _) | (with_reducible refine Kd.C_drewN ?_ _) | (with_reducible refine Kd.C_drew ?_) | exact HR219.out)) hb); have n4_ := Z0.mk (bwT (by repeat (first | (with_reducible first | exact HB.out | apply bwA | apply bwN | apply bw1 | refine bwS ?_ GE194.out) | exact HB.out)) hb); clear HO_10; clear BK194; clear HR219; clear HB; have HO_10 := n0_; have HO223 := n1_; have BK194 := n2_; have HR219 := n3_; have HB := n4_; clear n0_ n1_ n2_ n3_ n4_; (try clear hb); (try clear hb2); (try clear hk); (try clear hi); (try clear ho0)))
                              repeat (go_quiet (first | (go_at_call 18; (with_reducible refine (shape_Join.calls kj54 a0_0 a0_1 a0_2 _ _ y216 (wrap64 (a0_1 * t197)) t220 t221 _ ?side1 ?side2 A65.out).mono ?_); (case side1 => repeat (first | exact (by repeat (first | (with_reducible exact HR219.out) | (with_reducible refine Kd.C_alloc ?_ _) | (with_reducible refine Kd.C_drewN ?_ _) | (with_reducible refine Kd.C_drew ?_) | exact HR219.out)) | (with_reducible refine Kd.C_alloc ?_ _) | (with_reducible refine Kd.C_drewN ?_ _) | (with_reducible refine Kd.C_drew ?_))); (case side2 => exact HC219.out); rintro e w68 ⟨v222, rfl, ho0, hb⟩; have n0_ := Z0.mk (Kd.S_elder' (by (with_reducible repeat (first | apply Kd.S_alloc | apply Kd.S_drewN | apply Kd.S_drew)); exact HO_10.out) (Kd.R_base ho0) hb); have n1_ := Z0.mk (Kd.R_lower ho0 (bwZ (by repeat (first | (with_reducible first | exact HB.out | apply bwA | apply bwN | apply bw1 | refine bwS ?_ GE194.out) | exact HB.out)))); have n2_ := Z0.mk (bkB (g := gb194) (o := .cells #[.int .i64 a0_0, .int .i64 a0_1, .int .i64 a0_2] 32 (0, 0)) (by (with_reducible repeat (first | refine bkN ?_ _ | refine bkD ?_ | refine bkA ?_ _)); exact BK194.out) hb); have n3_ := Z0.mk (Kd.C_below (by repeat (first | (with_reducible exact HR219.out) | (with_reducible refine Kd.C_alloc ?_ _) | (with_reducible refine Kd.C_drewN ?_ _) | (with_reducible refine Kd.C_drew ?_) | exact HR219.out)) hb); have n4_ := Z0.mk (bwT (by repeat (first | (with_reducible first | exact HB.out | apply bwA | apply bwN | apply bw1 | refine bwS ?_ GE194.out) | exact HB.out)) hb); clear HO_10; clear BK194; clear HR219; clear HB; have HO_10 := n0_; have HO223 := n1_; have BK194 := n2_; have HR219 := n3_; have HB := n4_; clear n0_ n1_ n2_ n3_ n4_; (try clear hb); (try clear hb2); (try clear hk); (try clear hi); (try clear ho0))); go_upto_region 19 with (first | (go_at_call 18; (with_reducible refine (shape_Join.calls kj54 a0_0 a0_1 a0_2 _ _ y216 (wrap64 (a0_1 * t197)) t220 t221 _ ?side1 ?side2 A65.out).mono ?_); (case side1 => repeat (first | exact (by repeat (first | (with_reducible exact HR219.out) | (with_reducible refine Kd.C_alloc ?_ _) | (with_reducible refine Kd.C_drewN ?_ _) | (with_reducible refine Kd.C_drew ?_) | exact HR219.out)) | (with_reducible refine Kd.C_alloc ?_ _) | (with_reducible refine Kd.C_drewN ?_ _) | (with_reducible refine Kd.C_drew ?_))); (case side2 => exact HC219.out); rintro e w68 ⟨v222, rfl, ho0, hb⟩; have n0_ := Z0.mk (Kd.S_elder' (by (with_reducible repeat (first | apply Kd.S_alloc | apply Kd.S_drewN | apply Kd.S_drew)); exact HO_10.out) (Kd.R_base ho0) hb); have n1_ := Z0.mk (Kd.R_lower ho0 (bwZ (by repeat (first | (with_reducible first | exact HB.out | apply bwA | apply bwN | apply bw1 | refine bwS ?_ GE194.out) | exact HB.out)))); have n2_ := Z0.mk (bkB (g := gb194) (o := .cells #[.int .i64 a0_0, .int .i64 a0_1, .int .i64 a0_2] 32 (0, 0)) (by (with_reducible repeat (first | refine bkN ?_ _ | refine bkD ?_ | refine bkA ?_ _)); exact BK194.out) hb); have n3_ := Z0.mk (Kd.C_below (by repeat (first | (with_reducible exact HR219.out) | (with_reducible refine Kd.C_alloc ?_ _) | (with_reducible refine Kd.C_drewN ?_ _) | (with_reducible refine Kd.C_drew ?_) | exact HR219.out)) hb); have n4_ := Z0.mk (bwT (by repeat (first | (with_reducible first | exact HB.out | apply bwA | apply bwN | apply bw1 | refine bwS ?_ GE194.out) | exact HB.out)) hb); clear HO_10; clear BK194; clear HR219; clear HB; have HO_10 := n0_; have HO223 := n1_; have BK194 := n2_; have HR219 := n3_; have HB := n4_; clear n0_ n1_ n2_ n3_ n4_; (try clear hb); (try clear hb2); (try clear hk); (try clear hi); (try clear ho0))))
                              (try simp only [Act.put, List.setIfInBounds_toArray, List.set_cons_zero, List.set_cons_succ])
                              go_cut [150] (fun v150 wc => ∃ (kq : Nat) (x150_65 : Bool), v150 = .bool x150_65 ∧ Z0 (culletlaw16_ShapeBack.j2 kq l1 a0_0 a0_1 a0_2 t197 t205 t220 x150_65 = some r) ∧ Z0 (kq ≤ kj54) ∧ Z0 (Kd.S (Kd.slice 5 (Kd.int .u8)) 27 wc w.heap.size (fun k_ => some k_ ≠ (v222 : Value).ownBlock) (.slice Ao48 t205.length co48) t205) ∧ Z0 (Kd.R (Kd.int .u8) 5 wc w.heap.size (fun _ => True) v222 t220) ∧ Z0 (wc.heap[gb194]? = some (.cells #[.int .i64 a0_0, .int .i64 a0_1, .int .i64 a0_2] 32 (0, 0))) ∧ Z0 (Kd.C (Kd.slice 5 (Kd.int .u8)) wc Ao48 y216.length y216) ∧ Z0 (Below w.heap.size w wc))
                              case first =>
                                have H := HC66.out
                                clear HC66
                                by_cases c69 : t221 = 0
                                · rw [if_pos c69] at H
                                  have c69b0 : (t221 == 0) = true := beq_iff_eq.mpr c69
                                  have c69b1 : (t221 != 0) = false := bne_eq_false_iff_eq.mpr c69
                                  clear c69
                                  (first | rw [c69b0] | (simp only [i64_w, i32_w]; rw [c69b0]) | skip)
                                  have H' := Z0.mk H
                                  clear H
                                  obtain ⟨Ao70, co70, eo70⟩ := Kd.R_slice HO223.out
                                  subst eo70
                                  go_wp2
                                  repeat (go_quiet (fail); try go_wp2)
                                  go_meet
                                  case rel => exact ⟨_, (((t220.length : Int) != (wrap64 (a0_1 * t197)))), (by first | rfl | (simp; done) | (simp [*]; done)), H', ⟨by have := HJ37.out; have := HJ54.out; first | omega | exact Nat.le_refl _⟩, ⟨by (with_reducible repeat (first | apply Kd.S_alloc | apply Kd.S_drewN | apply Kd.S_drew)); exact Kd.S_mono HO_10.out (fun _ hk => hk.2)⟩, ⟨by (with_reducible repeat (first | apply Kd.R_alloc | apply Kd.R_drewN | apply Kd.R_drew)); exact HO223.out⟩, ⟨by (with_reducible repeat (first | refine bkN ?_ _ | refine bkD ?_ | refine bkA ?_ _)); exact BK194.out⟩, ⟨by repeat (first | (with_reducible exact HR219.out) | (with_reducible refine Kd.C_alloc ?_ _) | (with_reducible refine Kd.C_drewN ?_ _) | (with_reducible refine Kd.C_drew ?_) | exact HR219.out)⟩, ⟨by repeat (first | (with_reducible first | exact HB.out | apply bwA | apply bwN | apply bw1 | refine bwS ?_ GE194.out) | exact HB.out)⟩⟩
                                · rw [if_neg c69] at H
                                  have c69b0 : (t221 == 0) = false := beq_eq_false_iff_ne.mpr c69
                                  have c69b1 : (t221 != 0) = true := bne_iff_ne.mpr c69
                                  (first | rw [c69b0] | (simp only [i64_w, i32_w]; rw [c69b0]) | skip)
                                  have H' := Z0.mk H
                                  clear H
                                  go_wp2
                                  repeat (go_quiet (fail); try go_wp2)
                                  go_meet
                                  case rel => exact ⟨_, (true), (by first | rfl | (simp; done) | (simp [*]; done)), H', ⟨by have := HJ37.out; have := HJ54.out; first | omega | exact Nat.le_refl _⟩, ⟨by (with_reducible repeat (first | apply Kd.S_alloc | apply Kd.S_drewN | apply Kd.S_drew)); exact Kd.S_mono HO_10.out (fun _ hk => hk.2)⟩, ⟨by (with_reducible repeat (first | apply Kd.R_alloc | apply Kd.R_drewN | apply Kd.R_drew)); exact HO223.out⟩, ⟨by (with_reducible repeat (first | refine bkN ?_ _ | refine bkD ?_ | refine bkA ?_ _)); exact BK194.out⟩, ⟨by repeat (first | (with_reducible exact HR219.out) | (with_reducible refine Kd.C_alloc ?_ _) | (with_reducible refine Kd.C_drewN ?_ _) | (with_reducible refine Kd.C_drew ?_) | exact HR219.out)⟩, ⟨by repeat (first | (with_reducible first | exact HB.out | apply bwA | apply bwN | apply bw1 | refine bwS ?_ GE194.out) | exact HB.out)⟩⟩
                              case rest =>
                                clear HC66
                                try clear c1
                                try clear p2
                                try clear c4
                                try clear c5
                                try clear c6
                                try clear p6
                                try clear q6
                                try clear c12
                                try clear c14
                                try clear c14b0
                                try clear c14b1
                                try clear c15
                                try clear c15b0
                                try clear c15b1
                                try clear c16
                                try clear c16b0
                                try clear c17
                                try clear c17b0
                                try clear c17b1
                                try clear c50
                                try clear c50b0
                                try clear c50b1
                                try clear c51
                                try clear c51b0
                                try clear c51b1
                                try clear c52
                                try clear c52b0
                                try clear c52b1
                                try clear c53
                                try clear c57
                                try clear c57b0
                                try clear c57b1
                                try clear c59
                                try clear c62
                                try clear c63
                                try clear c63b0
                                try clear c63b1
                                try clear c64
                                try clear c64b0
                                try clear c64b1
                                try clear p64
                                try clear q67
                                try clear c69
                                try clear c69b0
                                try clear c69b1
                                try clear hcz20_0
                                try clear hcz20_1
                                try clear hcz20_2
                                try clear hcz30_0
                                try clear hcz30_1
                                try clear hcz30_2
                                try clear hcz41_0
                                try clear hcz41_1
                                try clear hcz41_2
                                try clear hcz9_0
                                try clear hcz9_1
                                try clear hcz9_2
                                try clear hfz20_0
                                try clear hfz20_1
                                try clear hfz20_2
                                try clear hfz30_0
                                try clear hfz30_1
                                try clear hfz30_2
                                try clear hfz41_0
                                try clear hfz41_1
                                try clear hfz41_2
                                try clear hfz9_0
                                try clear hfz9_1
                                try clear hfz9_2
                                try clear p2
                                try clear p6
                                try clear q67
                                obtain ⟨kq, x150_65, rfl, HA, HJ65, HO_10, HO_15, BK194, HR219, HB⟩ := hcut
                                cases kq with
                                | zero => exact absurd HA.out (by simp [culletlaw16_ShapeBack.j2])
                                | succ kj65 =>
                                  have H := HA.out
                                  clear HA
                                  simp only [culletlaw16_ShapeBack.j2] at H
                                  by_cases c71 : x150_65 = true
                                  · subst c71
                                    have H1 : (some false) = some r := by rw [if_pos rfl] at H; exact H
                                    clear H
                                    have H := H1
                                    clear H1
                                    obtain rfl := Option.some.inj H
                                    go_wp2
                                    repeat (go_quiet (fail); try go_wp2)
                                    go_ret
                                    exact ⟨by first | rfl | (simp [ewN, ewS] <;> rfl) | (simp [*, ewN, ewS] <;> rfl), by repeat (first | (with_reducible first | exact HB.out | apply bwA | apply bwN | apply bw1 | refine bwS ?_ GE194.out) | exact HB.out)⟩
                                  · replace c71 := Bool.eq_false_iff.mpr c71
                                    subst c71
                                    have H1 : (culletlaw16_ShapeBack.l0 kj65 a0_0 a0_1 a0_2 t197 t205 t220 (l1.length : Int)) = some r := by rw [if_neg (show ¬ (false = true) by decide)] at H; exact H
                                    clear H
                                    have H := H1
                                    clear H1
                                    have H' := Z0.mk H
                                    clear H
                                    go_wp2
                                    repeat (go_quiet (fail); try go_wp2)
                                    go_loopg [16] kj65 (fun kq v16 w' => ∃ (x16_4 : Int), v16 = .int .i64 x16_4 ∧ Z0 (culletlaw16_ShapeBack.l0 kq a0_0 a0_1 a0_2 t197 t205 t220 x16_4 = some r) ∧ Z0 (kq ≤ kj65) ∧ Z0 (Kd.S (Kd.slice 5 (Kd.int .u8)) 27 w' w.heap.size (fun k_ => some k_ ≠ (v222 : Value).ownBlock) (.slice Ao48 t205.length co48) t205) ∧ Z0 (Kd.R (Kd.int .u8) 5 w' w.heap.size (fun _ => True) v222 t220) ∧ Z0 (w'.heap[gb194]? = some (.cells #[.int .i64 a0_0, .int .i64 a0_1, .int .i64 a0_2] 32 (0, 0))) ∧ Z0 (Below w.heap.size w w'))
                                    case atStart => exact ⟨((l1.length : Int)), (by first | rfl | (simp; done) | (simp [*]; done)), H', ⟨Nat.le_refl _⟩, ⟨by (with_reducible repeat (first | apply Kd.S_alloc | apply Kd.S_drewN | apply Kd.S_drew)); exact HO_10.out⟩, ⟨by (with_reducible repeat (first | apply Kd.R_alloc | apply Kd.R_drewN | apply Kd.R_drew)); exact HO_15.out⟩, ⟨by (with_reducible repeat (first | refine bkN ?_ _ | refine bkD ?_ | refine bkA ?_ _)); exact BK194.out⟩, ⟨by repeat (first | (with_reducible first | exact HB.out | apply bwA | apply bwN | apply bw1 | refine bwS ?_ GE194.out) | exact HB.out)⟩⟩
                                    case round =>
                                      clear H'
                                      try clear c1
                                      try clear p2
                                      try clear c4
                                      try clear c5
                                      try clear c6
                                      try clear p6
                                      try clear q6
                                      try clear c7
                                      try clear c12
                                      try clear c14
                                      try clear c14b0
                                      try clear c14b1
                                      try clear c15
                                      try clear c15b0
                                      try clear c15b1
                                      try clear c16
                                      try clear c16b0
                                      try clear c17
                                      try clear c17b0
                                      try clear c17b1
                                      try clear c50
                                      try clear c50b0
                                      try clear c50b1
                                      try clear c51
                                      try clear c51b0
                                      try clear c51b1
                                      try clear c52
                                      try clear c52b0
                                      try clear c52b1
                                      try clear c53
                                      try clear c57
                                      try clear c57b0
                                      try clear c57b1
                                      try clear c59
                                      try clear c62
                                      try clear c63
                                      try clear c63b0
                                      try clear c63b1
                                      try clear c64
                                      try clear c64b0
                                      try clear c64b1
                                      try clear p64
                                      try clear q67
                                      try clear c69
                                      try clear c69b0
                                      try clear c69b1
                                      try clear c71
                                      try clear hcz20_0
                                      try clear hcz20_1
                                      try clear hcz20_2
                                      try clear hcz30_0
                                      try clear hcz30_1
                                      try clear hcz30_2
                                      try clear hcz41_0
                                      try clear hcz41_1
                                      try clear hcz41_2
                                      try clear hcz9_0
                                      try clear hcz9_1
                                      try clear hcz9_2
                                      try clear hfz20_0
                                      try clear hfz20_1
                                      try clear hfz20_2
                                      try clear hfz30_0
                                      try clear hfz30_1
                                      try clear hfz30_2
                                      try clear hfz41_0
                                      try clear hfz41_1
                                      try clear hfz41_2
                                      try clear hfz9_0
                                      try clear hfz9_1
                                      try clear hfz9_2
                                      try clear p2
                                      try clear p6
                                      try clear p64
                                      try clear q6
                                      try clear q67
                                      obtain ⟨x16_4, rfl, HA, HK4, HO_10, HO_15, BK194, HB⟩ := hrel
                                      cases gk with
                                      | zero => exact absurd HA.out (by simp [culletlaw16_ShapeBack.l0])
                                      | succ k4 =>
                                        have H := HA.out
                                        clear HA
                                        simp only [culletlaw16_ShapeBack.l0] at H
                                        by_cases c72 : x16_4 < (wrap64 (a0_1 * t197))
                                        · rw [if_pos c72] at H
                                          have c72b0 : decide (x16_4 < (wrap64 (a0_1 * t197))) = true := decide_eq_true c72
                                          clear c72
                                          by_cases c73 : 0 ≤ x16_4
                                          · rw [if_pos c73] at H
                                            have c73b0 : decide (0 ≤ x16_4) = true := decide_eq_true c73
                                            clear c73
                                            by_cases c74 : x16_4 < (t220.length : Int)
                                            · rw [if_pos c74] at H
                                              have c74b0 : decide (x16_4 < (t220.length : Int)) = true := decide_eq_true c74
                                              clear c74
                                              by_cases c75 : (rd t220 x16_4) = 0
                                              · rw [if_pos c75] at H
                                                have c75b0 : ((rd t220 x16_4) == 0) = true := beq_iff_eq.mpr c75
                                                have c75b1 : ((rd t220 x16_4) != 0) = false := bne_eq_false_iff_eq.mpr c75
                                                clear c75
                                                have H' := Z0.mk H
                                                clear H
                                                obtain ⟨Ao76, co76, eo76⟩ := Kd.R_slice HO_15.out
                                                subst eo76
                                                have p224 : 0 ≤ (x16_4 : Int) := of_decide_eq_true (by first | (with_reducible assumption) | assumption)
                                                have q224 : x16_4 < (t220.length : Int) := of_decide_eq_true (by first | (with_reducible assumption) | assumption)
                                                obtain ⟨ad224, e224, hx224_0⟩ := Kd.at_int (Kd.R_reads' HO_15.out).2.2 x16_4 p224 q224
                                                cases e224
                                                replace p224 := eq_true p224
                                                replace q224 := eq_true q224
                                                go_wp2
                                                repeat (go_quiet (fail); try go_wp2)
                                                go_roundg k4
                                                case measure => have := HJ37.out; have := HJ54.out; have := HJ65.out; have := HK4.out; omega
                                                case rel => exact ⟨(wrap64 (x16_4 + 1)), (by first | rfl | (simp; done) | (simp [*]; done)), H', ⟨by have := HJ37.out; have := HJ54.out; have := HJ65.out; have := HK4.out; omega⟩, ⟨by (with_reducible repeat (first | apply Kd.S_alloc | apply Kd.S_drewN | apply Kd.S_drew)); exact HO_10.out⟩, ⟨by (with_reducible repeat (first | apply Kd.R_alloc | apply Kd.R_drewN | apply Kd.R_drew)); exact HO_15.out⟩, ⟨by (with_reducible repeat (first | refine bkN ?_ _ | refine bkD ?_ | refine bkA ?_ _)); exact BK194.out⟩, ⟨by repeat (first | (with_reducible first | exact HB.out | apply bwA | apply bwN | apply bw1 | refine bwS ?_ GE194.out) | exact HB.out)⟩⟩
                                              · rw [if_neg c75] at H
                                                have c75b0 : ((rd t220 x16_4) == 0) = false := beq_eq_false_iff_ne.mpr c75
                                                have c75b1 : ((rd t220 x16_4) != 0) = true := bne_iff_ne.mpr c75
                                                obtain rfl := Option.some.inj H
                                                obtain ⟨Ao77, co77, eo77⟩ := Kd.R_slice HO_15.out
                                                subst eo77
                                                have p224 : 0 ≤ (x16_4 : Int) := of_decide_eq_true (by first | (with_reducible assumption) | assumption)
                                                have q224 : x16_4 < (t220.length : Int) := of_decide_eq_true (by first | (with_reducible assumption) | assumption)
                                                obtain ⟨ad224, e224, hx224_0⟩ := Kd.at_int (Kd.R_reads' HO_15.out).2.2 x16_4 p224 q224
                                                cases e224
                                                replace p224 := eq_true p224
                                                replace q224 := eq_true q224
                                                go_wp2
                                                repeat (go_quiet (fail); try go_wp2)
                                                go_ret
                                                exact ⟨by first | rfl | (simp [ewN, ewS] <;> rfl) | (simp [*, ewN, ewS] <;> rfl), by repeat (first | (with_reducible first | exact HB.out | apply bwA | apply bwN | apply bw1 | refine bwS ?_ GE194.out) | exact HB.out)⟩
                                            · rw [if_neg c74] at H
                                              exact absurd H (by simp)
                                          · rw [if_neg c73] at H
                                            exact absurd H (by simp)
                                        · rw [if_neg c72] at H
                                          have c72b0 : decide (x16_4 < (wrap64 (a0_1 * t197))) = false := decide_eq_false c72
                                          clear c72
                                          have H' := Z0.mk H
                                          clear H
                                          go_wp2
                                          repeat (go_quiet (fail); try go_wp2)
                                          go_loopg [17] k4 (fun kq v17 w' => ∃ (x17_5 : Int), v17 = .int .i64 x17_5 ∧ Z0 (culletlaw16_ShapeBack.l1 kq a0_0 a0_1 a0_2 t197 t205 x17_5 = some r) ∧ Z0 (kq ≤ k4) ∧ Z0 (Kd.S (Kd.slice 5 (Kd.int .u8)) 27 w' w.heap.size (fun _ => True) (.slice Ao48 t205.length co48) t205) ∧ Z0 (w'.heap[gb194]? = some (.cells #[.int .i64 a0_0, .int .i64 a0_1, .int .i64 a0_2] 32 (0, 0))) ∧ Z0 (Below w.heap.size w w'))
                                          case atStart => exact ⟨(a0_1), (by first | rfl | (simp; done) | (simp [*]; done)), H', ⟨Nat.le_refl _⟩, ⟨by (with_reducible repeat (first | apply Kd.S_alloc | apply Kd.S_drewN | apply Kd.S_drew)); exact Kd.S_mono HO_10.out (fun _ hk => trivial)⟩, ⟨by (with_reducible repeat (first | refine bkN ?_ _ | refine bkD ?_ | refine bkA ?_ _)); exact BK194.out⟩, ⟨by repeat (first | (with_reducible first | exact HB.out | apply bwA | apply bwN | apply bw1 | refine bwS ?_ GE194.out) | exact HB.out)⟩⟩
                                          case round =>
                                            clear H'
                                            try clear c1
                                            try clear p2
                                            try clear q2
                                            try clear hx2
                                            try clear c4
                                            try clear c5
                                            try clear c6
                                            try clear p6
                                            try clear q6
                                            try clear c7
                                            try clear c12
                                            try clear c14
                                            try clear c14b0
                                            try clear c14b1
                                            try clear c15
                                            try clear c15b0
                                            try clear c15b1
                                            try clear c16
                                            try clear c16b0
                                            try clear c17
                                            try clear c17b0
                                            try clear c17b1
                                            try clear p22
                                            try clear q22
                                            try clear hx22
                                            try clear c50
                                            try clear c50b0
                                            try clear c50b1
                                            try clear c51
                                            try clear c51b0
                                            try clear c51b1
                                            try clear c52
                                            try clear c52b0
                                            try clear c52b1
                                            try clear c53
                                            try clear c57
                                            try clear c57b0
                                            try clear c57b1
                                            try clear c59
                                            try clear c62
                                            try clear c63
                                            try clear c63b0
                                            try clear c63b1
                                            try clear c64
                                            try clear c64b0
                                            try clear c64b1
                                            try clear p64
                                            try clear q67
                                            try clear c69
                                            try clear c69b0
                                            try clear c69b1
                                            try clear c71
                                            try clear c72
                                            try clear c72b0
                                            try clear c73
                                            try clear c73b0
                                            try clear c74
                                            try clear c74b0
                                            try clear c75
                                            try clear c75b0
                                            try clear c75b1
                                            try clear hcz20_0
                                            try clear hcz20_1
                                            try clear hcz20_2
                                            try clear hcz30_0
                                            try clear hcz30_1
                                            try clear hcz30_2
                                            try clear hcz41_0
                                            try clear hcz41_1
                                            try clear hcz41_2
                                            try clear hcz9_0
                                            try clear hcz9_1
                                            try clear hcz9_2
                                            try clear hfz20_0
                                            try clear hfz20_1
                                            try clear hfz20_2
                                            try clear hfz30_0
                                            try clear hfz30_1
                                            try clear hfz30_2
                                            try clear hfz41_0
                                            try clear hfz41_1
                                            try clear hfz41_2
                                            try clear hfz9_0
                                            try clear hfz9_1
                                            try clear hfz9_2
                                            try clear hx224_0
                                            try clear p2
                                            try clear p224
                                            try clear p6
                                            try clear p64
                                            try clear q224
                                            try clear q6
                                            try clear q67
                                            obtain ⟨x17_5, rfl, HA, HK5, HO_10, BK194, HB⟩ := hrel
                                            cases gk with
                                            | zero => exact absurd HA.out (by simp [culletlaw16_ShapeBack.l1])
                                            | succ k5 =>
                                              have H := HA.out
                                              clear HA
                                              simp only [culletlaw16_ShapeBack.l1] at H
                                              by_cases c78 : x17_5 < (wrap64 (a0_1 + a0_2))
                                              · rw [if_pos c78] at H
                                                have c78b0 : decide (x17_5 < (wrap64 (a0_1 + a0_2))) = true := decide_eq_true c78
                                                clear c78
                                                have H' := Z0.mk H
                                                clear H
                                                go_wp2
                                                repeat (go_quiet (fail); try go_wp2)
                                                go_loopg [18] k5 (fun kq v18 w' => ∃ (x18_6 : Int), v18 = .int .i64 x18_6 ∧ Z0 (culletlaw16_ShapeBack.l2 kq a0_0 a0_1 a0_2 t197 t205 x17_5 x18_6 = some r) ∧ Z0 (kq ≤ k5) ∧ Z0 (Kd.S (Kd.slice 5 (Kd.int .u8)) 27 w' w.heap.size (fun _ => True) (.slice Ao48 t205.length co48) t205) ∧ Z0 (w'.heap[gb194]? = some (.cells #[.int .i64 a0_0, .int .i64 a0_1, .int .i64 a0_2] 32 (0, 0))) ∧ Z0 (Below w.heap.size w w'))
                                                case atStart => exact ⟨(0), (by first | rfl | (simp; done) | (simp [*]; done)), H', ⟨Nat.le_refl _⟩, ⟨by (with_reducible repeat (first | apply Kd.S_alloc | apply Kd.S_drewN | apply Kd.S_drew)); exact HO_10.out⟩, ⟨by (with_reducible repeat (first | refine bkN ?_ _ | refine bkD ?_ | refine bkA ?_ _)); exact BK194.out⟩, ⟨by repeat (first | (with_reducible first | exact HB.out | apply bwA | apply bwN | apply bw1 | refine bwS ?_ GE194.out) | exact HB.out)⟩⟩
                                                case round =>
                                                  clear H'
                                                  try clear c1
                                                  try clear p2
                                                  try clear q2
                                                  try clear hx2
                                                  try clear c4
                                                  try clear c5
                                                  try clear c6
                                                  try clear p6
                                                  try clear q6
                                                  try clear c7
                                                  try clear c12
                                                  try clear c14
                                                  try clear c14b0
                                                  try clear c14b1
                                                  try clear c15
                                                  try clear c15b0
                                                  try clear c15b1
                                                  try clear c16
                                                  try clear c16b0
                                                  try clear c17
                                                  try clear c17b0
                                                  try clear c17b1
                                                  try clear p22
                                                  try clear q22
                                                  try clear hx22
                                                  try clear c50
                                                  try clear c50b0
                                                  try clear c50b1
                                                  try clear c51
                                                  try clear c51b0
                                                  try clear c51b1
                                                  try clear c52
                                                  try clear c52b0
                                                  try clear c52b1
                                                  try clear c53
                                                  try clear c57
                                                  try clear c57b0
                                                  try clear c57b1
                                                  try clear c59
                                                  try clear c62
                                                  try clear c63
                                                  try clear c63b0
                                                  try clear c63b1
                                                  try clear c64
                                                  try clear c64b0
                                                  try clear c64b1
                                                  try clear p64
                                                  try clear q67
                                                  try clear c69
                                                  try clear c69b0
                                                  try clear c69b1
                                                  try clear c71
                                                  try clear c72
                                                  try clear c72b0
                                                  try clear c73
                                                  try clear c73b0
                                                  try clear c74
                                                  try clear c74b0
                                                  try clear c75
                                                  try clear c75b0
                                                  try clear c75b1
                                                  try clear c78
                                                  try clear c78b0
                                                  try clear hcz20_0
                                                  try clear hcz20_1
                                                  try clear hcz20_2
                                                  try clear hcz30_0
                                                  try clear hcz30_1
                                                  try clear hcz30_2
                                                  try clear hcz41_0
                                                  try clear hcz41_1
                                                  try clear hcz41_2
                                                  try clear hcz9_0
                                                  try clear hcz9_1
                                                  try clear hcz9_2
                                                  try clear hfz20_0
                                                  try clear hfz20_1
                                                  try clear hfz20_2
                                                  try clear hfz30_0
                                                  try clear hfz30_1
                                                  try clear hfz30_2
                                                  try clear hfz41_0
                                                  try clear hfz41_1
                                                  try clear hfz41_2
                                                  try clear hfz9_0
                                                  try clear hfz9_1
                                                  try clear hfz9_2
                                                  try clear hx224_0
                                                  try clear p2
                                                  try clear p22
                                                  try clear p224
                                                  try clear p6
                                                  try clear p64
                                                  try clear q2
                                                  try clear q22
                                                  try clear q224
                                                  try clear q6
                                                  try clear q67
                                                  obtain ⟨x18_6, rfl, HA, HK6, HO_10, BK194, HB⟩ := hrel
                                                  cases gk with
                                                  | zero => exact absurd HA.out (by simp [culletlaw16_ShapeBack.l2])
                                                  | succ k6 =>
                                                    have H := HA.out
                                                    clear HA
                                                    simp only [culletlaw16_ShapeBack.l2] at H
                                                    by_cases c79 : x18_6 < t197
                                                    · rw [if_pos c79] at H
                                                      have c79b0 : decide (x18_6 < t197) = true := decide_eq_true c79
                                                      clear c79
                                                      by_cases c80 : 0 ≤ x17_5
                                                      · rw [if_pos c80] at H
                                                        have c80b0 : decide (0 ≤ x17_5) = true := decide_eq_true c80
                                                        clear c80
                                                        by_cases c81 : x17_5 < (t205.length : Int)
                                                        · rw [if_pos c81] at H
                                                          have c81b0 : decide (x17_5 < (t205.length : Int)) = true := decide_eq_true c81
                                                          clear c81
                                                          by_cases c82 : 0 ≤ x18_6
                                                          · rw [if_pos c82] at H
                                                            have c82b0 : decide (0 ≤ x18_6) = true := decide_eq_true c82
                                                            clear c82
                                                            by_cases c83 : x18_6 < ((rd_L2 t205 x17_5).length : Int)
                                                            · rw [if_pos c83] at H
                                                              have c83b0 : decide (x18_6 < ((rd_L2 t205 x17_5).length : Int)) = true := decide_eq_true c83
                                                              clear c83
                                                              by_cases c84 : (rd (rd_L2 t205 x17_5) x18_6) = 0
                                                              · rw [if_pos c84] at H
                                                                have c84b0 : ((rd (rd_L2 t205 x17_5) x18_6) == 0) = true := beq_iff_eq.mpr c84
                                                                have c84b1 : ((rd (rd_L2 t205 x17_5) x18_6) != 0) = false := bne_eq_false_iff_eq.mpr c84
                                                                clear c84
                                                                have H' := Z0.mk H
                                                                clear H
                                                                have p229 : 0 ≤ (x17_5 : Int) := of_decide_eq_true (by first | (with_reducible assumption) | assumption)
                                                                have q229 : x17_5 < (t205.length : Int) := of_decide_eq_true (by first | (with_reducible assumption) | assumption)
                                                                obtain ⟨ad229, A229_0, c229_0, e229, hx229_0, hl229_0, hi229_0⟩ := at_L2 (Kd.S_reads' HO_10.out).2.2 x17_5 p229 q229
                                                                cases e229
                                                                obtain ⟨ce229, hce229, hMe229, hcc229⟩ := Kd.S_get HO_10.out [] x17_5 p229 (by first | exact q229 | exact of_decide_eq_true (by first | (with_reducible assumption) | assumption) | (have e_ := (Kd.S_reads' HO_10.out).1; omega))
                                                                obtain ⟨ve229_0, rfl, ge229_0⟩ := hMe229
                                                                have hv229_0 := hcc229 0 _ rfl
                                                                rw [Nat.add_zero, show ((Kd.slice 5 (Kd.int .u8))).sz = 1 from rfl, Nat.mul_one] at hv229_0
                                                                replace hv229_0 := Option.some.inj (hv229_0.symm.trans hx229_0)
                                                                rw [hv229_0] at ge229_0
                                                                have HL229_0 := Z0.mk (show Kd.R (Kd.int .u8) 5 _ _ _ _ (rd_L2 t205 x17_5) from ge229_0)
                                                                clear hv229_0 ge229_0
                                                                clear hcc229 hce229
                                                                have HR229_0 := Z0.mk hi229_0
                                                                have HC229_0 := Z0.mk hl229_0
                                                                clear hi229_0 hl229_0
                                                                replace p229 := eq_true p229
                                                                replace q229 := eq_true q229
                                                                have p230 : 0 ≤ (x18_6 : Int) := of_decide_eq_true (by first | (with_reducible assumption) | assumption)
                                                                have q230 : x18_6 < ((rd_L2 t205 x17_5).length : Int) := of_decide_eq_true (by first | (with_reducible assumption) | assumption)
                                                                obtain ⟨ad230, e230, hx230_0⟩ := Kd.at_int (by repeat (first | (with_reducible exact HR229_0.out) | (with_reducible refine Kd.C_alloc ?_ _) | (with_reducible refine Kd.C_drewN ?_ _) | (with_reducible refine Kd.C_drew ?_) | exact HR229_0.out)) x18_6 p230 q230
                                                                cases e230
                                                                replace p230 := eq_true p230
                                                                replace q230 := eq_true q230
                                                                go_wp2
                                                                repeat (go_quiet (fail); try go_wp2)
                                                                go_roundg k6
                                                                case measure => have := HJ37.out; have := HJ54.out; have := HJ65.out; have := HK4.out; have := HK5.out; have := HK6.out; omega
                                                                case rel => exact ⟨(wrap64 (x18_6 + 1)), (by first | rfl | (simp; done) | (simp [*]; done)), H', ⟨by have := HJ37.out; have := HJ54.out; have := HJ65.out; have := HK4.out; have := HK5.out; have := HK6.out; omega⟩, ⟨by (with_reducible repeat (first | apply Kd.S_alloc | apply Kd.S_drewN | apply Kd.S_drew)); exact HO_10.out⟩, ⟨by (with_reducible repeat (first | refine bkN ?_ _ | refine bkD ?_ | refine bkA ?_ _)); exact BK194.out⟩, ⟨by repeat (first | (with_reducible first | exact HB.out | apply bwA | apply bwN | apply bw1 | refine bwS ?_ GE194.out) | exact HB.out)⟩⟩
                                                              · rw [if_neg c84] at H
                                                                have c84b0 : ((rd (rd_L2 t205 x17_5) x18_6) == 0) = false := beq_eq_false_iff_ne.mpr c84
                                                                have c84b1 : ((rd (rd_L2 t205 x17_5) x18_6) != 0) = true := bne_iff_ne.mpr c84
                                                                obtain rfl := Option.some.inj H
                                                                have p229 : 0 ≤ (x17_5 : Int) := of_decide_eq_true (by first | (with_reducible assumption) | assumption)
                                                                have q229 : x17_5 < (t205.length : Int) := of_decide_eq_true (by first | (with_reducible assumption) | assumption)
                                                                obtain ⟨ad229, A229_0, c229_0, e229, hx229_0, hl229_0, hi229_0⟩ := at_L2 (Kd.S_reads' HO_10.out).2.2 x17_5 p229 q229
                                                                cases e229
                                                                obtain ⟨ce229, hce229, hMe229, hcc229⟩ := Kd.S_get HO_10.out [] x17_5 p229 (by first | exact q229 | exact of_decide_eq_true (by first | (with_reducible assumption) | assumption) | (have e_ := (Kd.S_reads' HO_10.out).1; omega))
                                                                obtain ⟨ve229_0, rfl, ge229_0⟩ := hMe229
                                                                have hv229_0 := hcc229 0 _ rfl
                                                                rw [Nat.add_zero, show ((Kd.slice 5 (Kd.int .u8))).sz = 1 from rfl, Nat.mul_one] at hv229_0
                                                                replace hv229_0 := Option.some.inj (hv229_0.symm.trans hx229_0)
                                                                rw [hv229_0] at ge229_0
                                                                have HL229_0 := Z0.mk (show Kd.R (Kd.int .u8) 5 _ _ _ _ (rd_L2 t205 x17_5) from ge229_0)
                                                                clear hv229_0 ge229_0
                                                                clear hcc229 hce229
                                                                have HR229_0 := Z0.mk hi229_0
                                                                have HC229_0 := Z0.mk hl229_0
                                                                clear hi229_0 hl229_0
                                                                replace p229 := eq_true p229
                                                                replace q229 := eq_true q229
                                                                have p230 : 0 ≤ (x18_6 : Int) := of_decide_eq_true (by first | (with_reducible assumption) | assumption)
                                                                have q230 : x18_6 < ((rd_L2 t205 x17_5).length : Int) := of_decide_eq_true (by first | (with_reducible assumption) | assumption)
                                                                obtain ⟨ad230, e230, hx230_0⟩ := Kd.at_int (by repeat (first | (with_reducible exact HR229_0.out) | (with_reducible refine Kd.C_alloc ?_ _) | (with_reducible refine Kd.C_drewN ?_ _) | (with_reducible refine Kd.C_drew ?_) | exact HR229_0.out)) x18_6 p230 q230
                                                                cases e230
                                                                replace p230 := eq_true p230
                                                                replace q230 := eq_true q230
                                                                go_wp2
                                                                repeat (go_quiet (fail); try go_wp2)
                                                                go_ret
                                                                exact ⟨by first | rfl | (simp [ewN, ewS] <;> rfl) | (simp [*, ewN, ewS] <;> rfl), by repeat (first | (with_reducible first | exact HB.out | apply bwA | apply bwN | apply bw1 | refine bwS ?_ GE194.out) | exact HB.out)⟩
                                                            · rw [if_neg c83] at H
                                                              exact absurd H (by simp)
                                                          · rw [if_neg c82] at H
                                                            exact absurd H (by simp)
                                                        · rw [if_neg c81] at H
                                                          exact absurd H (by simp)
                                                      · rw [if_neg c80] at H
                                                        exact absurd H (by simp)
                                                    · rw [if_neg c79] at H
                                                      have c79b0 : decide (x18_6 < t197) = false := decide_eq_false c79
                                                      clear c79
                                                      have H' := Z0.mk H
                                                      clear H
                                                      go_wp2
                                                      repeat (go_quiet (fail); try go_wp2)
                                                      go_roundg k6
                                                      case measure => have := HJ37.out; have := HJ54.out; have := HJ65.out; have := HK4.out; have := HK5.out; have := HK6.out; omega
                                                      case rel => exact ⟨(wrap64 (x17_5 + 1)), (by first | rfl | (simp; done) | (simp [*]; done)), H', ⟨by have := HJ37.out; have := HJ54.out; have := HJ65.out; have := HK4.out; have := HK5.out; have := HK6.out; omega⟩, ⟨by (with_reducible repeat (first | apply Kd.S_alloc | apply Kd.S_drewN | apply Kd.S_drew)); exact HO_10.out⟩, ⟨by (with_reducible repeat (first | refine bkN ?_ _ | refine bkD ?_ | refine bkA ?_ _)); exact BK194.out⟩, ⟨by repeat (first | (with_reducible first | exact HB.out | apply bwA | apply bwN | apply bw1 | refine bwS ?_ GE194.out) | exact HB.out)⟩⟩
                                              · rw [if_neg c78] at H
                                                have c78b0 : decide (x17_5 < (wrap64 (a0_1 + a0_2))) = false := decide_eq_false c78
                                                clear c78
                                                replace H := Option.bind_eq_some_iff.mp H
                                                obtain ⟨⟨t225, t226⟩, A850, H⟩ := H
                                                dsimp only at H
                                                have A85 := Z0.mk A850
                                                clear A850
                                                obtain rfl := Option.some.inj H
                                                go_wp2_with (first | (go_at_call 18; (with_reducible refine (shape_Join.calls k5 a0_0 a0_1 a0_2 _ _ t205 (wrap64 ((wrap64 (a0_1 * t197)) + 1)) t225 t226 _ ?side1 ?side2 A85.out).mono ?_); (case side1 => repeat (first | exact (Kd.S_reads' HO_10.out).2.2 | (with_reducible refine Kd.C_alloc ?_ _) | (with_reducible refine Kd.C_drewN ?_ _) | (with_reducible refine Kd.C_drew ?_))); (case side2 => exact (Kd.S_reads' HO_10.out).2.1); rintro e w86 ⟨v227, rfl, ho0, hb⟩; have n0_ := Z0.mk (Kd.S_elder' (by (with_reducible repeat (first | apply Kd.S_alloc | apply Kd.S_drewN | apply Kd.S_drew)); exact HO_10.out) (Kd.R_base ho0) hb); have n1_ := Z0.mk (Kd.R_lower ho0 (bwZ (by repeat (first | (with_reducible first | exact HB.out | apply bwA | apply bwN | apply bw1 | refine bwS ?_ GE194.out) | exact HB.out)))); have n2_ := Z0.mk (bkB (g := gb194) (o := .cells #[.int .i64 a0_0, .int .i64 a0_1, .int .i64 a0_2] 32 (0, 0)) (by (with_reducible repeat (first | refine bkN ?_ _ | refine bkD ?_ | refine bkA ?_ _)); exact BK194.out) hb); have n3_ := Z0.mk (bwT (by repeat (first | (with_reducible first | exact HB.out | apply bwA | apply bwN | apply bw1 | refine bwS ?_ GE194.out) | exact HB.out)) hb); clear HO_10; clear BK194; clear HB; have HO_10 := n0_; have HO228 := n1_; have BK194 := n2_; have HB := n3_; clear n0_ n1_ n2_ n3_; (try clear hb); (try clear hb2); (try clear hk); (try clear hi); (try clear ho0)))
                                                repeat (go_quiet (first | (go_at_call 18; (with_reducible refine (shape_Join.calls k5 a0_0 a0_1 a0_2 _ _ t205 (wrap64 ((wrap64 (a0_1 * t197)) + 1)) t225 t226 _ ?side1 ?side2 A85.out).mono ?_); (case side1 => repeat (first | exact (Kd.S_reads' HO_10.out).2.2 | (with_reducible refine Kd.C_alloc ?_ _) | (with_reducible refine Kd.C_drewN ?_ _) | (with_reducible refine Kd.C_drew ?_))); (case side2 => exact (Kd.S_reads' HO_10.out).2.1); rintro e w86 ⟨v227, rfl, ho0, hb⟩; have n0_ := Z0.mk (Kd.S_elder' (by (with_reducible repeat (first | apply Kd.S_alloc | apply Kd.S_drewN | apply Kd.S_drew)); exact HO_10.out) (Kd.R_base ho0) hb); have n1_ := Z0.mk (Kd.R_lower ho0 (bwZ (by repeat (first | (with_reducible first | exact HB.out | apply bwA | apply bwN | apply bw1 | refine bwS ?_ GE194.out) | exact HB.out)))); have n2_ := Z0.mk (bkB (g := gb194) (o := .cells #[.int .i64 a0_0, .int .i64 a0_1, .int .i64 a0_2] 32 (0, 0)) (by (with_reducible repeat (first | refine bkN ?_ _ | refine bkD ?_ | refine bkA ?_ _)); exact BK194.out) hb); have n3_ := Z0.mk (bwT (by repeat (first | (with_reducible first | exact HB.out | apply bwA | apply bwN | apply bw1 | refine bwS ?_ GE194.out) | exact HB.out)) hb); clear HO_10; clear BK194; clear HB; have HO_10 := n0_; have HO228 := n1_; have BK194 := n2_; have HB := n3_; clear n0_ n1_ n2_ n3_; (try clear hb); (try clear hb2); (try clear hk); (try clear hi); (try clear ho0))); try go_wp2_with (first | (go_at_call 18; (with_reducible refine (shape_Join.calls k5 a0_0 a0_1 a0_2 _ _ t205 (wrap64 ((wrap64 (a0_1 * t197)) + 1)) t225 t226 _ ?side1 ?side2 A85.out).mono ?_); (case side1 => repeat (first | exact (Kd.S_reads' HO_10.out).2.2 | (with_reducible refine Kd.C_alloc ?_ _) | (with_reducible refine Kd.C_drewN ?_ _) | (with_reducible refine Kd.C_drew ?_))); (case side2 => exact (Kd.S_reads' HO_10.out).2.1); rintro e w86 ⟨v227, rfl, ho0, hb⟩; have n0_ := Z0.mk (Kd.S_elder' (by (with_reducible repeat (first | apply Kd.S_alloc | apply Kd.S_drewN | apply Kd.S_drew)); exact HO_10.out) (Kd.R_base ho0) hb); have n1_ := Z0.mk (Kd.R_lower ho0 (bwZ (by repeat (first | (with_reducible first | exact HB.out | apply bwA | apply bwN | apply bw1 | refine bwS ?_ GE194.out) | exact HB.out)))); have n2_ := Z0.mk (bkB (g := gb194) (o := .cells #[.int .i64 a0_0, .int .i64 a0_1, .int .i64 a0_2] 32 (0, 0)) (by (with_reducible repeat (first | refine bkN ?_ _ | refine bkD ?_ | refine bkA ?_ _)); exact BK194.out) hb); have n3_ := Z0.mk (bwT (by repeat (first | (with_reducible first | exact HB.out | apply bwA | apply bwN | apply bw1 | refine bwS ?_ GE194.out) | exact HB.out)) hb); clear HO_10; clear BK194; clear HB; have HO_10 := n0_; have HO228 := n1_; have BK194 := n2_; have HB := n3_; clear n0_ n1_ n2_ n3_; (try clear hb); (try clear hb2); (try clear hk); (try clear hi); (try clear ho0))))
                                                go_ret
                                                exact ⟨by first | rfl | (simp [ewN, ewS] <;> rfl) | (simp [*, ewN, ewS] <;> rfl), by repeat (first | (with_reducible first | exact HB.out | apply bwA | apply bwN | apply bw1 | refine bwS ?_ GE194.out) | exact HB.out)⟩
                            · rw [if_neg c64] at H
                              exact absurd H (by simp)
                          · rw [if_neg c63] at H
                            exact absurd H (by simp)
        · rw [if_neg c14] at H
          have c14b0 : (t198 == 0) = false := beq_eq_false_iff_ne.mpr c14
          have c14b1 : (t198 != 0) = true := bne_iff_ne.mpr c14
          by_cases c87 : t206 = t198
          · rw [if_pos c87] at H
            have c87b0 : (t206 == t198) = true := beq_iff_eq.mpr c87
            have c87b1 : (t206 != t198) = false := bne_eq_false_iff_eq.mpr c87
            clear c87
            obtain rfl := Option.some.inj H
            go_enter Try.func6, Try.ntmps6
            go_wp2_with (first | ((with_reducible refine gate_dst (N := 2) rfl ?_); (try (refine gate_guard (by rfl) ?_; dsimp only)); refine box_event ?hg (N := 2) ?hd (cs := #[.int .i64 a0_0, .int .i64 a0_1, .int .i64 a0_2]) (t := 32) ?hr ?_; (case hd => rfl); (case hg => rfl); (case hr => first | (go_simp; done) | (go_simp; rfl)); intro gb194 hg w88 hbox hb; have n0_ := Z0.mk (bwT (by repeat (first | (with_reducible first | exact HB.out | apply bwA | apply bwN | apply bw1) | exact HB.out)) hb); have n1_ := Z0.mk (hbox); have n2_ := Z0.mk ((by rw [hg]; exact (bwZ (by repeat (first | (with_reducible first | exact HB.out | apply bwA | apply bwN | apply bw1) | exact HB.out))) : w.heap.size ≤ gb194)); have n3_ := Z0.mk ((by rw [hg]; exact (bwZ (by repeat (first | (with_reducible first | exact HB.out | apply bwA | apply bwN | apply bw1) | exact HB.out))) : w.heap.size ≤ gb194)); clear HB; have HB := n0_; have BK194 := n1_; have GW194 := n2_; have GE194 := n3_; clear n0_ n1_ n2_ n3_; clear hb hbox hg) | (go_at_call 13; (with_reducible refine (culletlaw16_awake.calls k  true _ A3.out).mono ?_); rintro e w89 ⟨rfl, hb⟩; have n0_ := Z0.mk (bkB (g := gb194) (o := .cells #[.int .i64 a0_0, .int .i64 a0_1, .int .i64 a0_2] 32 (0, 0)) (by (with_reducible repeat (first | refine bkN ?_ _ | refine bkD ?_ | refine bkA ?_ _)); exact BK194.out) hb); have n1_ := Z0.mk (bwT (by repeat (first | (with_reducible first | exact HB.out | apply bwA | apply bwN | apply bw1 | refine bwS ?_ GE194.out) | exact HB.out)) hb); clear BK194; clear HB; have BK194 := n0_; have HB := n1_; clear n0_ n1_; (try clear hb); (try clear hb2); (try clear hk); (try clear hi); have hcz90_0 : w89.cell? ⟨gb194, 0, none⟩ = some (.int .i64 a0_0) := (bkC BK194.out 0).trans rfl; have hcz90_1 : w89.cell? ⟨gb194, 1, none⟩ = some (.int .i64 a0_1) := (bkC BK194.out 1).trans rfl; have hcz90_2 : w89.cell? ⟨gb194, 2, none⟩ = some (.int .i64 a0_2) := (bkC BK194.out 2).trans rfl; have hfz90_0 := bkF BK194.out 0; have hfz90_1 := bkF BK194.out 1; have hfz90_2 := bkF BK194.out 2) | (go_at_call 16; (refine (culletlaw16_great.calls k 0 a0_0 a0_1 a0_2 0 _ _ ([] : List (List Int)) _ _ ([] : List (List Int)) _ _ l1 false _ ?side1 ?side2 ?side3 ?side4 ?side5 ?side6 A5.out).mono ?_); (case side1 => exact Kd.C_nil _ _); (case side2 => exact Nat.le_refl _); (case side3 => exact Kd.C_nil _ _); (case side4 => exact Nat.le_refl _); (case side5 => repeat (first | exact (Kd.C_below HR1.out HB.out) | (with_reducible refine Kd.C_alloc ?_ _) | (with_reducible refine Kd.C_drewN ?_ _) | (with_reducible refine Kd.C_drew ?_))); (case side6 => exact HC1.out); rintro e w91 ⟨rfl, hb⟩; have n0_ := Z0.mk (bkB (g := gb194) (o := .cells #[.int .i64 a0_0, .int .i64 a0_1, .int .i64 a0_2] 32 (0, 0)) (by (with_reducible repeat (first | refine bkN ?_ _ | refine bkD ?_ | refine bkA ?_ _)); exact BK194.out) hb); have n1_ := Z0.mk (bwT (by repeat (first | (with_reducible first | exact HB.out | apply bwA | apply bwN | apply bw1 | refine bwS ?_ GE194.out) | exact HB.out)) hb); clear BK194; clear HB; have BK194 := n0_; have HB := n1_; clear n0_ n1_; (try clear hb); (try clear hb2); (try clear hk); (try clear hi)) | (go_at_call 15; (with_reducible refine (shape_Length.calls k a0_0 a0_1 a0_2 (l1.length : Int) t197 t198 _ A11.out).mono ?_); rintro e w' ⟨rfl, ⟨nd, rfl⟩⟩; (try first | exact ⟨rfl, _, World.drewN_drewN _ _ _⟩ | exact ⟨rfl, _, Eq.trans (World.drewN_drewN _ _ _) (congrArg (World.drewN _) (Nat.add_assoc _ _ _))⟩)) | ((with_reducible refine gate_dst (N := 46) rfl ?_); (try (refine gate_guard (by rfl) ?_; dsimp only)); refine Kd.R_lit (Kd.int .u8) _ 5 ?hg (N := 46) ?hd (xs := ([] : List Int)) (inner := []) (ok := fun _ => True) (okp := fun _ => True) ?hr ?hp (fun _ hk => hk) trivial (Below.refl _ _) (Nat.le_refl _) (by simp) ?_; (case hd => rfl); (case hg => rfl); (case hr => first | (go_simp; done) | (go_simp; rfl)); (case hp => exact (Reps.none _ _)); intro v200 w92 ho93 hb hg_ hnew_; clear hg_ hnew_; (first | rw [← Ny199.out] at ho93 | (simp only [Int.reduceToNat] at ho93; rw [← Ny199.out] at ho93)); have n0_ := Z0.mk (Kd.R_lower ho93 (bwZ (by repeat (first | (with_reducible first | exact HB.out | apply bwA | apply bwN | apply bw1 | refine bwS ?_ GE194.out) | exact HB.out)))); have n1_ := Z0.mk (bkB (g := gb194) (o := .cells #[.int .i64 a0_0, .int .i64 a0_1, .int .i64 a0_2] 32 (0, 0)) (by (with_reducible repeat (first | refine bkN ?_ _ | refine bkD ?_ | refine bkA ?_ _)); exact BK194.out) hb); have n2_ := Z0.mk (bwT (by repeat (first | (with_reducible first | exact HB.out | apply bwA | apply bwN | apply bw1 | refine bwS ?_ GE194.out) | exact HB.out)) hb); clear BK194; clear HB; have HO201 := n0_; have BK194 := n1_; have HB := n2_; clear n0_ n1_ n2_; clear hb ho93) | ((with_reducible refine gate_builtin (b := .append) (xs := #[.tmp 46, .tmp 47]) rfl ?_); (try (refine gate_guard (by rfl) ?_; dsimp only)); at_builtin; refine Kd.R_append_rows (Kd.int .u8) (w0 := w) w.heap.size rfl (.tmp 46) (.tmp 47) 27 5 (.int .u8 0) 1 rfl Try.underlying27 info5 rfl (by decide) (by omega) v200 y199 l1 _ _ _ (fun _ => True) (fun _ => False) rfl rfl ?aO ?aR (fun _ _ h => h) (fun _ h => h.elim) ?aF ?aB ?aS ?aL ?_; (case aR => repeat (first | exact (Kd.C_below HR1.out HB.out) | (with_reducible refine Kd.C_alloc ?_ _) | (with_reducible refine Kd.C_drewN ?_ _) | (with_reducible refine Kd.C_drew ?_))); (case aB => exact (by repeat (first | (with_reducible first | exact HB.out | apply bwA | apply bwN | apply bw1 | refine bwS ?_ GE194.out) | exact HB.out))); (case aF => exact (fun _ _ => trivial)); (case aO => exact (by (with_reducible repeat (first | apply Kd.R_alloc | apply Kd.R_drewN | apply Kd.R_drew)); exact HO201.out)); (case aS => exact (bwZ (by repeat (first | (with_reducible first | exact HB.out | apply bwA | apply bwN | apply bw1 | refine bwS ?_ GE194.out) | exact HB.out)))); (case aL => have := LMc12.out; omega); intro v203 w94 ho hb hg hat; rw [← Ny202.out] at ho; have n0_ := Z0.mk (blk_grown (g := gb194) (o := .cells #[.int .i64 a0_0, .int .i64 a0_1, .int .i64 a0_2] 32 (0, 0)) (by (with_reducible repeat (first | refine bkN ?_ _ | refine bkD ?_ | refine bkA ?_ _)); exact BK194.out) hg (Kd.R_ne HO201.out BK194.out (by decide))); have n1_ := Z0.mk (hb); have n2_ := Z0.mk (ho); clear BK194; clear HB; clear HO201; have BK194 := n0_; have HB := n1_; have HO204 := n2_; clear n0_ n1_ n2_; clear ho hb hg hat; obtain ⟨Ao95, co95, eo95⟩ := Kd.R_slice HO204.out; subst eo95) | (go_at_call 12; (with_reducible refine (shape_Split.calls k a0_0 a0_1 a0_2 _ _ y202 t205 t206 _ ?side1 ?side2 A13.out).mono ?_); (case side1 => repeat (first | exact (Kd.R_reads' HO204.out).2.2 | (with_reducible refine Kd.C_alloc ?_ _) | (with_reducible refine Kd.C_drewN ?_ _) | (with_reducible refine Kd.C_drew ?_))); (case side2 => exact (Kd.R_reads' HO204.out).2.1); rintro e w96 ⟨v207, rfl, ho0, hb⟩; have n0_ := Z0.mk (Kd.R_below (by (with_reducible repeat (first | apply Kd.R_alloc | apply Kd.R_drewN | apply Kd.R_drew)); exact HO204.out) hb); have n1_ := Z0.mk (Kd.S_lower (Kd.S_new' ho0 (Kd.R_lt (by (with_reducible repeat (first | apply Kd.R_alloc | apply Kd.R_drewN | apply Kd.R_drew)); exact HO204.out))) (bwZ (by repeat (first | (with_reducible first | exact HB.out | apply bwA | apply bwN | apply bw1 | refine bwS ?_ GE194.out) | exact HB.out)))); have n2_ := Z0.mk (bkB (g := gb194) (o := .cells #[.int .i64 a0_0, .int .i64 a0_1, .int .i64 a0_2] 32 (0, 0)) (by (with_reducible repeat (first | refine bkN ?_ _ | refine bkD ?_ | refine bkA ?_ _)); exact BK194.out) hb); have n3_ := Z0.mk (bwT (by repeat (first | (with_reducible first | exact HB.out | apply bwA | apply bwN | apply bw1 | refine bwS ?_ GE194.out) | exact HB.out)) hb); clear HO204; clear BK194; clear HB; have HO204 := n0_; have HO208 := n1_; have BK194 := n2_; have HB := n3_; clear n0_ n1_ n2_ n3_; (try clear hb); (try clear hb2); (try clear hk); (try clear hi); (try clear ho0); obtain ⟨Ao97, co97, eo97⟩ := Kd.S_slice HO208.out; subst eo97))
            repeat (go_quiet (first | ((with_reducible refine gate_dst (N := 2) rfl ?_); (try (refine gate_guard (by rfl) ?_; dsimp only)); refine box_event ?hg (N := 2) ?hd (cs := #[.int .i64 a0_0, .int .i64 a0_1, .int .i64 a0_2]) (t := 32) ?hr ?_; (case hd => rfl); (case hg => rfl); (case hr => first | (go_simp; done) | (go_simp; rfl)); intro gb194 hg w88 hbox hb; have n0_ := Z0.mk (bwT (by repeat (first | (with_reducible first | exact HB.out | apply bwA | apply bwN | apply bw1) | exact HB.out)) hb); have n1_ := Z0.mk (hbox); have n2_ := Z0.mk ((by rw [hg]; exact (bwZ (by repeat (first | (with_reducible first | exact HB.out | apply bwA | apply bwN | apply bw1) | exact HB.out))) : w.heap.size ≤ gb194)); have n3_ := Z0.mk ((by rw [hg]; exact (bwZ (by repeat (first | (with_reducible first | exact HB.out | apply bwA | apply bwN | apply bw1) | exact HB.out))) : w.heap.size ≤ gb194)); clear HB; have HB := n0_; have BK194 := n1_; have GW194 := n2_; have GE194 := n3_; clear n0_ n1_ n2_ n3_; clear hb hbox hg) | (go_at_call 13; (with_reducible refine (culletlaw16_awake.calls k  true _ A3.out).mono ?_); rintro e w89 ⟨rfl, hb⟩; have n0_ := Z0.mk (bkB (g := gb194) (o := .cells #[.int .i64 a0_0, .int .i64 a0_1, .int .i64 a0_2] 32 (0, 0)) (by (with_reducible repeat (first | refine bkN ?_ _ | refine bkD ?_ | refine bkA ?_ _)); exact BK194.out) hb); have n1_ := Z0.mk (bwT (by repeat (first | (with_reducible first | exact HB.out | apply bwA | apply bwN | apply bw1 | refine bwS ?_ GE194.out) | exact HB.out)) hb); clear BK194; clear HB; have BK194 := n0_; have HB := n1_; clear n0_ n1_; (try clear hb); (try clear hb2); (try clear hk); (try clear hi); have hcz90_0 : w89.cell? ⟨gb194, 0, none⟩ = some (.int .i64 a0_0) := (bkC BK194.out 0).trans rfl; have hcz90_1 : w89.cell? ⟨gb194, 1, none⟩ = some (.int .i64 a0_1) := (bkC BK194.out 1).trans rfl; have hcz90_2 : w89.cell? ⟨gb194, 2, none⟩ = some (.int .i64 a0_2) := (bkC BK194.out 2).trans rfl; have hfz90_0 := bkF BK194.out 0; have hfz90_1 := bkF BK194.out 1; have hfz90_2 := bkF BK194.out 2) | (go_at_call 16; (refine (culletlaw16_great.calls k 0 a0_0 a0_1 a0_2 0 _ _ ([] : List (List Int)) _ _ ([] : List (List Int)) _ _ l1 false _ ?side1 ?side2 ?side3 ?side4 ?side5 ?side6 A5.out).mono ?_); (case side1 => exact Kd.C_nil _ _); (case side2 => exact Nat.le_refl _); (case side3 => exact Kd.C_nil _ _); (case side4 => exact Nat.le_refl _); (case side5 => repeat (first | exact (Kd.C_below HR1.out HB.out) | (with_reducible refine Kd.C_alloc ?_ _) | (with_reducible refine Kd.C_drewN ?_ _) | (with_reducible refine Kd.C_drew ?_))); (case side6 => exact HC1.out); rintro e w91 ⟨rfl, hb⟩; have n0_ := Z0.mk (bkB (g := gb194) (o := .cells #[.int .i64 a0_0, .int .i64 a0_1, .int .i64 a0_2] 32 (0, 0)) (by (with_reducible repeat (first | refine bkN ?_ _ | refine bkD ?_ | refine bkA ?_ _)); exact BK194.out) hb); have n1_ := Z0.mk (bwT (by repeat (first | (with_reducible first | exact HB.out | apply bwA | apply bwN | apply bw1 | refine bwS ?_ GE194.out) | exact HB.out)) hb); clear BK194; clear HB; have BK194 := n0_; have HB := n1_; clear n0_ n1_; (try clear hb); (try clear hb2); (try clear hk); (try clear hi)) | (go_at_call 15; (with_reducible refine (shape_Length.calls k a0_0 a0_1 a0_2 (l1.length : Int) t197 t198 _ A11.out).mono ?_); rintro e w' ⟨rfl, ⟨nd, rfl⟩⟩; (try first | exact ⟨rfl, _, World.drewN_drewN _ _ _⟩ | exact ⟨rfl, _, Eq.trans (World.drewN_drewN _ _ _) (congrArg (World.drewN _) (Nat.add_assoc _ _ _))⟩)) | ((with_reducible refine gate_dst (N := 46) rfl ?_); (try (refine gate_guard (by rfl) ?_; dsimp only)); refine Kd.R_lit (Kd.int .u8) _ 5 ?hg (N := 46) ?hd (xs := ([] : List Int)) (inner := []) (ok := fun _ => True) (okp := fun _ => True) ?hr ?hp (fun _ hk => hk) trivial (Below.refl _ _) (Nat.le_refl _) (by simp) ?_; (case hd => rfl); (case hg => rfl); (case hr => first | (go_simp; done) | (go_simp; rfl)); (case hp => exact (Reps.none _ _)); intro v200 w92 ho93 hb hg_ hnew_; clear hg_ hnew_; (first | rw [← Ny199.out] at ho93 | (simp only [Int.reduceToNat] at ho93; rw [← Ny199.out] at ho93)); have n0_ := Z0.mk (Kd.R_lower ho93 (bwZ (by repeat (first | (with_reducible first | exact HB.out | apply bwA | apply bwN | apply bw1 | refine bwS ?_ GE194.out) | exact HB.out)))); have n1_ := Z0.mk (bkB (g := gb194) (o := .cells #[.int .i64 a0_0, .int .i64 a0_1, .int .i64 a0_2] 32 (0, 0)) (by (with_reducible repeat (first | refine bkN ?_ _ | refine bkD ?_ | refine bkA ?_ _)); exact BK194.out) hb); have n2_ := Z0.mk (bwT (by repeat (first | (with_reducible first | exact HB.out | apply bwA | apply bwN | apply bw1 | refine bwS ?_ GE194.out) | exact HB.out)) hb); clear BK194; clear HB; have HO201 := n0_; have BK194 := n1_; have HB := n2_; clear n0_ n1_ n2_; clear hb ho93) | ((with_reducible refine gate_builtin (b := .append) (xs := #[.tmp 46, .tmp 47]) rfl ?_); (try (refine gate_guard (by rfl) ?_; dsimp only)); at_builtin; refine Kd.R_append_rows (Kd.int .u8) (w0 := w) w.heap.size rfl (.tmp 46) (.tmp 47) 27 5 (.int .u8 0) 1 rfl Try.underlying27 info5 rfl (by decide) (by omega) v200 y199 l1 _ _ _ (fun _ => True) (fun _ => False) rfl rfl ?aO ?aR (fun _ _ h => h) (fun _ h => h.elim) ?aF ?aB ?aS ?aL ?_; (case aR => repeat (first | exact (Kd.C_below HR1.out HB.out) | (with_reducible refine Kd.C_alloc ?_ _) | (with_reducible refine Kd.C_drewN ?_ _) | (with_reducible refine Kd.C_drew ?_))); (case aB => exact (by repeat (first | (with_reducible first | exact HB.out | apply bwA | apply bwN | apply bw1 | refine bwS ?_ GE194.out) | exact HB.out))); (case aF => exact (fun _ _ => trivial)); (case aO => exact (by (with_reducible repeat (first | apply Kd.R_alloc | apply Kd.R_drewN | apply Kd.R_drew)); exact HO201.out)); (case aS => exact (bwZ (by repeat (first | (with_reducible first | exact HB.out | apply bwA | apply bwN | apply bw1 | refine bwS ?_ GE194.out) | exact HB.out)))); (case aL => have := LMc12.out; omega); intro v203 w94 ho hb hg hat; rw [← Ny202.out] at ho; have n0_ := Z0.mk (blk_grown (g := gb194) (o := .cells #[.int .i64 a0_0, .int .i64 a0_1, .int .i64 a0_2] 32 (0, 0)) (by (with_reducible repeat (first | refine bkN ?_ _ | refine bkD ?_ | refine bkA ?_ _)); exact BK194.out) hg (Kd.R_ne HO201.out BK194.out (by decide))); have n1_ := Z0.mk (hb); have n2_ := Z0.mk (ho); clear BK194; clear HB; clear HO201; have BK194 := n0_; have HB := n1_; have HO204 := n2_; clear n0_ n1_ n2_; clear ho hb hg hat; obtain ⟨Ao95, co95, eo95⟩ := Kd.R_slice HO204.out; subst eo95) | (go_at_call 12; (with_reducible refine (shape_Split.calls k a0_0 a0_1 a0_2 _ _ y202 t205 t206 _ ?side1 ?side2 A13.out).mono ?_); (case side1 => repeat (first | exact (Kd.R_reads' HO204.out).2.2 | (with_reducible refine Kd.C_alloc ?_ _) | (with_reducible refine Kd.C_drewN ?_ _) | (with_reducible refine Kd.C_drew ?_))); (case side2 => exact (Kd.R_reads' HO204.out).2.1); rintro e w96 ⟨v207, rfl, ho0, hb⟩; have n0_ := Z0.mk (Kd.R_below (by (with_reducible repeat (first | apply Kd.R_alloc | apply Kd.R_drewN | apply Kd.R_drew)); exact HO204.out) hb); have n1_ := Z0.mk (Kd.S_lower (Kd.S_new' ho0 (Kd.R_lt (by (with_reducible repeat (first | apply Kd.R_alloc | apply Kd.R_drewN | apply Kd.R_drew)); exact HO204.out))) (bwZ (by repeat (first | (with_reducible first | exact HB.out | apply bwA | apply bwN | apply bw1 | refine bwS ?_ GE194.out) | exact HB.out)))); have n2_ := Z0.mk (bkB (g := gb194) (o := .cells #[.int .i64 a0_0, .int .i64 a0_1, .int .i64 a0_2] 32 (0, 0)) (by (with_reducible repeat (first | refine bkN ?_ _ | refine bkD ?_ | refine bkA ?_ _)); exact BK194.out) hb); have n3_ := Z0.mk (bwT (by repeat (first | (with_reducible first | exact HB.out | apply bwA | apply bwN | apply bw1 | refine bwS ?_ GE194.out) | exact HB.out)) hb); clear HO204; clear BK194; clear HB; have HO204 := n0_; have HO208 := n1_; have BK194 := n2_; have HB := n3_; clear n0_ n1_ n2_ n3_; (try clear hb); (try clear hb2); (try clear hk); (try clear hi); (try clear ho0); obtain ⟨Ao97, co97, eo97⟩ := Kd.S_slice HO208.out; subst eo97)); try go_wp2_with (first | ((with_reducible refine gate_dst (N := 2) rfl ?_); (try (refine gate_guard (by rfl) ?_; dsimp only)); refine box_event ?hg (N := 2) ?hd (cs := #[.int .i64 a0_0, .int .i64 a0_1, .int .i64 a0_2]) (t := 32) ?hr ?_; (case hd => rfl); (case hg => rfl); (case hr => first | (go_simp; done) | (go_simp; rfl)); intro gb194 hg w88 hbox hb; have n0_ := Z0.mk (bwT (by repeat (first | (with_reducible first | exact HB.out | apply bwA | apply bwN | apply bw1) | exact HB.out)) hb); have n1_ := Z0.mk (hbox); have n2_ := Z0.mk ((by rw [hg]; exact (bwZ (by repeat (first | (with_reducible first | exact HB.out | apply bwA | apply bwN | apply bw1) | exact HB.out))) : w.heap.size ≤ gb194)); have n3_ := Z0.mk ((by rw [hg]; exact (bwZ (by repeat (first | (with_reducible first | exact HB.out | apply bwA | apply bwN | apply bw1) | exact HB.out))) : w.heap.size ≤ gb194)); clear HB; have HB := n0_; have BK194 := n1_; have GW194 := n2_; have GE194 := n3_; clear n0_ n1_ n2_ n3_; clear hb hbox hg) | (go_at_call 13; (with_reducible refine (culletlaw16_awake.calls k  true _ A3.out).mono ?_); rintro e w89 ⟨rfl, hb⟩; have n0_ := Z0.mk (bkB (g := gb194) (o := .cells #[.int .i64 a0_0, .int .i64 a0_1, .int .i64 a0_2] 32 (0, 0)) (by (with_reducible repeat (first | refine bkN ?_ _ | refine bkD ?_ | refine bkA ?_ _)); exact BK194.out) hb); have n1_ := Z0.mk (bwT (by repeat (first | (with_reducible first | exact HB.out | apply bwA | apply bwN | apply bw1 | refine bwS ?_ GE194.out) | exact HB.out)) hb); clear BK194; clear HB; have BK194 := n0_; have HB := n1_; clear n0_ n1_; (try clear hb); (try clear hb2); (try clear hk); (try clear hi); have hcz90_0 : w89.cell? ⟨gb194, 0, none⟩ = some (.int .i64 a0_0) := (bkC BK194.out 0).trans rfl; have hcz90_1 : w89.cell? ⟨gb194, 1, none⟩ = some (.int .i64 a0_1) := (bkC BK194.out 1).trans rfl; have hcz90_2 : w89.cell? ⟨gb194, 2, none⟩ = some (.int .i64 a0_2) := (bkC BK194.out 2).trans rfl; have hfz90_0 := bkF BK194.out 0; have hfz90_1 := bkF BK194.out 1; have hfz90_2 := bkF BK194.out 2) | (go_at_call 16; (refine (culletlaw16_great.calls k 0 a0_0 a0_1 a0_2 0 _ _ ([] : List (List Int)) _ _ ([] : List (List Int)) _ _ l1 false _ ?side1 ?side2 ?side3 ?side4 ?side5 ?side6 A5.out).mono ?_); (case side1 => exact Kd.C_nil _ _); (case side2 => exact Nat.le_refl _); (case side3 => exact Kd.C_nil _ _); (case side4 => exact Nat.le_refl _); (case side5 => repeat (first | exact (Kd.C_below HR1.out HB.out) | (with_reducible refine Kd.C_alloc ?_ _) | (with_reducible refine Kd.C_drewN ?_ _) | (with_reducible refine Kd.C_drew ?_))); (case side6 => exact HC1.out); rintro e w91 ⟨rfl, hb⟩; have n0_ := Z0.mk (bkB (g := gb194) (o := .cells #[.int .i64 a0_0, .int .i64 a0_1, .int .i64 a0_2] 32 (0, 0)) (by (with_reducible repeat (first | refine bkN ?_ _ | refine bkD ?_ | refine bkA ?_ _)); exact BK194.out) hb); have n1_ := Z0.mk (bwT (by repeat (first | (with_reducible first | exact HB.out | apply bwA | apply bwN | apply bw1 | refine bwS ?_ GE194.out) | exact HB.out)) hb); clear BK194; clear HB; have BK194 := n0_; have HB := n1_; clear n0_ n1_; (try clear hb); (try clear hb2); (try clear hk); (try clear hi)) | (go_at_call 15; (with_reducible refine (shape_Length.calls k a0_0 a0_1 a0_2 (l1.length : Int) t197 t198 _ A11.out).mono ?_); rintro e w' ⟨rfl, ⟨nd, rfl⟩⟩; (try first | exact ⟨rfl, _, World.drewN_drewN _ _ _⟩ | exact ⟨rfl, _, Eq.trans (World.drewN_drewN _ _ _) (congrArg (World.drewN _) (Nat.add_assoc _ _ _))⟩)) | ((with_reducible refine gate_dst (N := 46) rfl ?_); (try (refine gate_guard (by rfl) ?_; dsimp only)); refine Kd.R_lit (Kd.int .u8) _ 5 ?hg (N := 46) ?hd (xs := ([] : List Int)) (inner := []) (ok := fun _ => True) (okp := fun _ => True) ?hr ?hp (fun _ hk => hk) trivial (Below.refl _ _) (Nat.le_refl _) (by simp) ?_; (case hd => rfl); (case hg => rfl); (case hr => first | (go_simp; done) | (go_simp; rfl)); (case hp => exact (Reps.none _ _)); intro v200 w92 ho93 hb hg_ hnew_; clear hg_ hnew_; (first | rw [← Ny199.out] at ho93 | (simp only [Int.reduceToNat] at ho93; rw [← Ny199.out] at ho93)); have n0_ := Z0.mk (Kd.R_lower ho93 (bwZ (by repeat (first | (with_reducible first | exact HB.out | apply bwA | apply bwN | apply bw1 | refine bwS ?_ GE194.out) | exact HB.out)))); have n1_ := Z0.mk (bkB (g := gb194) (o := .cells #[.int .i64 a0_0, .int .i64 a0_1, .int .i64 a0_2] 32 (0, 0)) (by (with_reducible repeat (first | refine bkN ?_ _ | refine bkD ?_ | refine bkA ?_ _)); exact BK194.out) hb); have n2_ := Z0.mk (bwT (by repeat (first | (with_reducible first | exact HB.out | apply bwA | apply bwN | apply bw1 | refine bwS ?_ GE194.out) | exact HB.out)) hb); clear BK194; clear HB; have HO201 := n0_; have BK194 := n1_; have HB := n2_; clear n0_ n1_ n2_; clear hb ho93) | ((with_reducible refine gate_builtin (b := .append) (xs := #[.tmp 46, .tmp 47]) rfl ?_); (try (refine gate_guard (by rfl) ?_; dsimp only)); at_builtin; refine Kd.R_append_rows (Kd.int .u8) (w0 := w) w.heap.size rfl (.tmp 46) (.tmp 47) 27 5 (.int .u8 0) 1 rfl Try.underlying27 info5 rfl (by decide) (by omega) v200 y199 l1 _ _ _ (fun _ => True) (fun _ => False) rfl rfl ?aO ?aR (fun _ _ h => h) (fun _ h => h.elim) ?aF ?aB ?aS ?aL ?_; (case aR => repeat (first | exact (Kd.C_below HR1.out HB.out) | (with_reducible refine Kd.C_alloc ?_ _) | (with_reducible refine Kd.C_drewN ?_ _) | (with_reducible refine Kd.C_drew ?_))); (case aB => exact (by repeat (first | (with_reducible first | exact HB.out | apply bwA | apply bwN | apply bw1 | refine bwS ?_ GE194.out) | exact HB.out))); (case aF => exact (fun _ _ => trivial)); (case aO => exact (by (with_reducible repeat (first | apply Kd.R_alloc | apply Kd.R_drewN | apply Kd.R_drew)); exact HO201.out)); (case aS => exact (bwZ (by repeat (first | (with_reducible first | exact HB.out | apply bwA | apply bwN | apply bw1 | refine bwS ?_ GE194.out) | exact HB.out)))); (case aL => have := LMc12.out; omega); intro v203 w94 ho hb hg hat; rw [← Ny202.out] at ho; have n0_ := Z0.mk (blk_grown (g := gb194) (o := .cells #[.int .i64 a0_0, .int .i64 a0_1, .int .i64 a0_2] 32 (0, 0)) (by (with_reducible repeat (first | refine bkN ?_ _ | refine bkD ?_ | refine bkA ?_ _)); exact BK194.out) hg (Kd.R_ne HO201.out BK194.out (by decide))); have n1_ := Z0.mk (hb); have n2_ := Z0.mk (ho); clear BK194; clear HB; clear HO201; have BK194 := n0_; have HB := n1_; have HO204 := n2_; clear n0_ n1_ n2_; clear ho hb hg hat; obtain ⟨Ao95, co95, eo95⟩ := Kd.R_slice HO204.out; subst eo95) | (go_at_call 12; (with_reducible refine (shape_Split.calls k a0_0 a0_1 a0_2 _ _ y202 t205 t206 _ ?side1 ?side2 A13.out).mono ?_); (case side1 => repeat (first | exact (Kd.R_reads' HO204.out).2.2 | (with_reducible refine Kd.C_alloc ?_ _) | (with_reducible refine Kd.C_drewN ?_ _) | (with_reducible refine Kd.C_drew ?_))); (case side2 => exact (Kd.R_reads' HO204.out).2.1); rintro e w96 ⟨v207, rfl, ho0, hb⟩; have n0_ := Z0.mk (Kd.R_below (by (with_reducible repeat (first | apply Kd.R_alloc | apply Kd.R_drewN | apply Kd.R_drew)); exact HO204.out) hb); have n1_ := Z0.mk (Kd.S_lower (Kd.S_new' ho0 (Kd.R_lt (by (with_reducible repeat (first | apply Kd.R_alloc | apply Kd.R_drewN | apply Kd.R_drew)); exact HO204.out))) (bwZ (by repeat (first | (with_reducible first | exact HB.out | apply bwA | apply bwN | apply bw1 | refine bwS ?_ GE194.out) | exact HB.out)))); have n2_ := Z0.mk (bkB (g := gb194) (o := .cells #[.int .i64 a0_0, .int .i64 a0_1, .int .i64 a0_2] 32 (0, 0)) (by (with_reducible repeat (first | refine bkN ?_ _ | refine bkD ?_ | refine bkA ?_ _)); exact BK194.out) hb); have n3_ := Z0.mk (bwT (by repeat (first | (with_reducible first | exact HB.out | apply bwA | apply bwN | apply bw1 | refine bwS ?_ GE194.out) | exact HB.out)) hb); clear HO204; clear BK194; clear HB; have HO204 := n0_; have HO208 := n1_; have BK194 := n2_; have HB := n3_; clear n0_ n1_ n2_ n3_; (try clear hb); (try clear hb2); (try clear hk); (try clear hi); (try clear ho0); obtain ⟨Ao97, co97, eo97⟩ := Kd.S_slice HO208.out; subst eo97)))
            go_ret
            exact ⟨by first | rfl | (simp [ewN, ewS] <;> rfl) | (simp [*, ewN, ewS] <;> rfl), by repeat (first | (with_reducible first | exact HB.out | apply bwA | apply bwN | apply bw1 | refine bwS ?_ GE194.out) | exact HB.out)⟩
          · rw [if_neg c87] at H
            have c87b0 : (t206 == t198) = false := beq_eq_false_iff_ne.mpr c87
            have c87b1 : (t206 != t198) = true := bne_iff_ne.mpr c87
            obtain rfl := Option.some.inj H
            go_enter Try.func6, Try.ntmps6
            go_wp2_with (first | ((with_reducible refine gate_dst (N := 2) rfl ?_); (try (refine gate_guard (by rfl) ?_; dsimp only)); refine box_event ?hg (N := 2) ?hd (cs := #[.int .i64 a0_0, .int .i64 a0_1, .int .i64 a0_2]) (t := 32) ?hr ?_; (case hd => rfl); (case hg => rfl); (case hr => first | (go_simp; done) | (go_simp; rfl)); intro gb194 hg w98 hbox hb; have n0_ := Z0.mk (bwT (by repeat (first | (with_reducible first | exact HB.out | apply bwA | apply bwN | apply bw1) | exact HB.out)) hb); have n1_ := Z0.mk (hbox); have n2_ := Z0.mk ((by rw [hg]; exact (bwZ (by repeat (first | (with_reducible first | exact HB.out | apply bwA | apply bwN | apply bw1) | exact HB.out))) : w.heap.size ≤ gb194)); have n3_ := Z0.mk ((by rw [hg]; exact (bwZ (by repeat (first | (with_reducible first | exact HB.out | apply bwA | apply bwN | apply bw1) | exact HB.out))) : w.heap.size ≤ gb194)); clear HB; have HB := n0_; have BK194 := n1_; have GW194 := n2_; have GE194 := n3_; clear n0_ n1_ n2_ n3_; clear hb hbox hg) | (go_at_call 13; (with_reducible refine (culletlaw16_awake.calls k  true _ A3.out).mono ?_); rintro e w99 ⟨rfl, hb⟩; have n0_ := Z0.mk (bkB (g := gb194) (o := .cells #[.int .i64 a0_0, .int .i64 a0_1, .int .i64 a0_2] 32 (0, 0)) (by (with_reducible repeat (first | refine bkN ?_ _ | refine bkD ?_ | refine bkA ?_ _)); exact BK194.out) hb); have n1_ := Z0.mk (bwT (by repeat (first | (with_reducible first | exact HB.out | apply bwA | apply bwN | apply bw1 | refine bwS ?_ GE194.out) | exact HB.out)) hb); clear BK194; clear HB; have BK194 := n0_; have HB := n1_; clear n0_ n1_; (try clear hb); (try clear hb2); (try clear hk); (try clear hi); have hcz100_0 : w99.cell? ⟨gb194, 0, none⟩ = some (.int .i64 a0_0) := (bkC BK194.out 0).trans rfl; have hcz100_1 : w99.cell? ⟨gb194, 1, none⟩ = some (.int .i64 a0_1) := (bkC BK194.out 1).trans rfl; have hcz100_2 : w99.cell? ⟨gb194, 2, none⟩ = some (.int .i64 a0_2) := (bkC BK194.out 2).trans rfl; have hfz100_0 := bkF BK194.out 0; have hfz100_1 := bkF BK194.out 1; have hfz100_2 := bkF BK194.out 2) | (go_at_call 16; (refine (culletlaw16_great.calls k 0 a0_0 a0_1 a0_2 0 _ _ ([] : List (List Int)) _ _ ([] : List (List Int)) _ _ l1 false _ ?side1 ?side2 ?side3 ?side4 ?side5 ?side6 A5.out).mono ?_); (case side1 => exact Kd.C_nil _ _); (case side2 => exact Nat.le_refl _); (case side3 => exact Kd.C_nil _ _); (case side4 => exact Nat.le_refl _); (case side5 => repeat (first | exact (Kd.C_below HR1.out HB.out) | (with_reducible refine Kd.C_alloc ?_ _) | (with_reducible refine Kd.C_drewN ?_ _) | (with_reducible refine Kd.C_drew ?_))); (case side6 => exact HC1.out); rintro e w101 ⟨rfl, hb⟩; have n0_ := Z0.mk (bkB (g := gb194) (o := .cells #[.int .i64 a0_0, .int .i64 a0_1, .int .i64 a0_2] 32 (0, 0)) (by (with_reducible repeat (first | refine bkN ?_ _ | refine bkD ?_ | refine bkA ?_ _)); exact BK194.out) hb); have n1_ := Z0.mk (bwT (by repeat (first | (with_reducible first | exact HB.out | apply bwA | apply bwN | apply bw1 | refine bwS ?_ GE194.out) | exact HB.out)) hb); clear BK194; clear HB; have BK194 := n0_; have HB := n1_; clear n0_ n1_; (try clear hb); (try clear hb2); (try clear hk); (try clear hi)) | (go_at_call 15; (with_reducible refine (shape_Length.calls k a0_0 a0_1 a0_2 (l1.length : Int) t197 t198 _ A11.out).mono ?_); rintro e w' ⟨rfl, ⟨nd, rfl⟩⟩; (try first | exact ⟨rfl, _, World.drewN_drewN _ _ _⟩ | exact ⟨rfl, _, Eq.trans (World.drewN_drewN _ _ _) (congrArg (World.drewN _) (Nat.add_assoc _ _ _))⟩)) | ((with_reducible refine gate_dst (N := 46) rfl ?_); (try (refine gate_guard (by rfl) ?_; dsimp only)); refine Kd.R_lit (Kd.int .u8) _ 5 ?hg (N := 46) ?hd (xs := ([] : List Int)) (inner := []) (ok := fun _ => True) (okp := fun _ => True) ?hr ?hp (fun _ hk => hk) trivial (Below.refl _ _) (Nat.le_refl _) (by simp) ?_; (case hd => rfl); (case hg => rfl); (case hr => first | (go_simp; done) | (go_simp; rfl)); (case hp => exact (Reps.none _ _)); intro v200 w102 ho103 hb hg_ hnew_; clear hg_ hnew_; (first | rw [← Ny199.out] at ho103 | (simp only [Int.reduceToNat] at ho103; rw [← Ny199.out] at ho103)); have n0_ := Z0.mk (Kd.R_lower ho103 (bwZ (by repeat (first | (with_reducible first | exact HB.out | apply bwA | apply bwN | apply bw1 | refine bwS ?_ GE194.out) | exact HB.out)))); have n1_ := Z0.mk (bkB (g := gb194) (o := .cells #[.int .i64 a0_0, .int .i64 a0_1, .int .i64 a0_2] 32 (0, 0)) (by (with_reducible repeat (first | refine bkN ?_ _ | refine bkD ?_ | refine bkA ?_ _)); exact BK194.out) hb); have n2_ := Z0.mk (bwT (by repeat (first | (with_reducible first | exact HB.out | apply bwA | apply bwN | apply bw1 | refine bwS ?_ GE194.out) | exact HB.out)) hb); clear BK194; clear HB; have HO201 := n0_; have BK194 := n1_; have HB := n2_; clear n0_ n1_ n2_; clear hb ho103) | ((with_reducible refine gate_builtin (b := .append) (xs := #[.tmp 46, .tmp 47]) rfl ?_); (try (refine gate_guard (by rfl) ?_; dsimp only)); at_builtin; refine Kd.R_append_rows (Kd.int .u8) (w0 := w) w.heap.size rfl (.tmp 46) (.tmp 47) 27 5 (.int .u8 0) 1 rfl Try.underlying27 info5 rfl (by decide) (by omega) v200 y199 l1 _ _ _ (fun _ => True) (fun _ => False) rfl rfl ?aO ?aR (fun _ _ h => h) (fun _ h => h.elim) ?aF ?aB ?aS ?aL ?_; (case aR => repeat (first | exact (Kd.C_below HR1.out HB.out) | (with_reducible refine Kd.C_alloc ?_ _) | (with_reducible refine Kd.C_drewN ?_ _) | (with_reducible refine Kd.C_drew ?_))); (case aB => exact (by repeat (first | (with_reducible first | exact HB.out | apply bwA | apply bwN | apply bw1 | refine bwS ?_ GE194.out) | exact HB.out))); (case aF => exact (fun _ _ => trivial)); (case aO => exact (by (with_reducible repeat (first | apply Kd.R_alloc | apply Kd.R_drewN | apply Kd.R_drew)); exact HO201.out)); (case aS => exact (bwZ (by repeat (first | (with_reducible first | exact HB.out | apply bwA | apply bwN | apply bw1 | refine bwS ?_ GE194.out) | exact HB.out)))); (case aL => have := LMc12.out; omega); intro v203 w104 ho hb hg hat; rw [← Ny202.out] at ho; have n0_ := Z0.mk (blk_grown (g := gb194) (o := .cells #[.int .i64 a0_0, .int .i64 a0_1, .int .i64 a0_2] 32 (0, 0)) (by (with_reducible repeat (first | refine bkN ?_ _ | refine bkD ?_ | refine bkA ?_ _)); exact BK194.out) hg (Kd.R_ne HO201.out BK194.out (by decide))); have n1_ := Z0.mk (hb); have n2_ := Z0.mk (ho); clear BK194; clear HB; clear HO201; have BK194 := n0_; have HB := n1_; have HO204 := n2_; clear n0_ n1_ n2_; clear ho hb hg hat; obtain ⟨Ao105, co105, eo105⟩ := Kd.R_slice HO204.out; subst eo105) | (go_at_call 12; (with_reducible refine (shape_Split.calls k a0_0 a0_1 a0_2 _ _ y202 t205 t206 _ ?side1 ?side2 A13.out).mono ?_); (case side1 => repeat (first | exact (Kd.R_reads' HO204.out).2.2 | (with_reducible refine Kd.C_alloc ?_ _) | (with_reducible refine Kd.C_drewN ?_ _) | (with_reducible refine Kd.C_drew ?_))); (case side2 => exact (Kd.R_reads' HO204.out).2.1); rintro e w106 ⟨v207, rfl, ho0, hb⟩; have n0_ := Z0.mk (Kd.R_below (by (with_reducible repeat (first | apply Kd.R_alloc | apply Kd.R_drewN | apply Kd.R_drew)); exact HO204.out) hb); have n1_ := Z0.mk (Kd.S_lower (Kd.S_new' ho0 (Kd.R_lt (by (with_reducible repeat (first | apply Kd.R_alloc | apply Kd.R_drewN | apply Kd.R_drew)); exact HO204.out))) (bwZ (by repeat (first | (with_reducible first | exact HB.out | apply bwA | apply bwN | apply bw1 | refine bwS ?_ GE194.out) | exact HB.out)))); have n2_ := Z0.mk (bkB (g := gb194) (o := .cells #[.int .i64 a0_0, .int .i64 a0_1, .int .i64 a0_2] 32 (0, 0)) (by (with_reducible repeat (first | refine bkN ?_ _ | refine bkD ?_ | refine bkA ?_ _)); exact BK194.out) hb); have n3_ := Z0.mk (bwT (by repeat (first | (with_reducible first | exact HB.out | apply bwA | apply bwN | apply bw1 | refine bwS ?_ GE194.out) | exact HB.out)) hb); clear HO204; clear BK194; clear HB; have HO204 := n0_; have HO208 := n1_; have BK194 := n2_; have HB := n3_; clear n0_ n1_ n2_ n3_; (try clear hb); (try clear hb2); (try clear hk); (try clear hi); (try clear ho0)))
            repeat (go_quiet (first | ((with_reducible refine gate_dst (N := 2) rfl ?_); (try (refine gate_guard (by rfl) ?_; dsimp only)); refine box_event ?hg (N := 2) ?hd (cs := #[.int .i64 a0_0, .int .i64 a0_1, .int .i64 a0_2]) (t := 32) ?hr ?_; (case hd => rfl); (case hg => rfl); (case hr => first | (go_simp; done) | (go_simp; rfl)); intro gb194 hg w98 hbox hb; have n0_ := Z0.mk (bwT (by repeat (first | (with_reducible first | exact HB.out | apply bwA | apply bwN | apply bw1) | exact HB.out)) hb); have n1_ := Z0.mk (hbox); have n2_ := Z0.mk ((by rw [hg]; exact (bwZ (by repeat (first | (with_reducible first | exact HB.out | apply bwA | apply bwN | apply bw1) | exact HB.out))) : w.heap.size ≤ gb194)); have n3_ := Z0.mk ((by rw [hg]; exact (bwZ (by repeat (first | (with_reducible first | exact HB.out | apply bwA | apply bwN | apply bw1) | exact HB.out))) : w.heap.size ≤ gb194)); clear HB; have HB := n0_; have BK194 := n1_; have GW194 := n2_; have GE194 := n3_; clear n0_ n1_ n2_ n3_; clear hb hbox hg) | (go_at_call 13; (with_reducible refine (culletlaw16_awake.calls k  true _ A3.out).mono ?_); rintro e w99 ⟨rfl, hb⟩; have n0_ := Z0.mk (bkB (g := gb194) (o := .cells #[.int .i64 a0_0, .int .i64 a0_1, .int .i64 a0_2] 32 (0, 0)) (by (with_reducible repeat (first | refine bkN ?_ _ | refine bkD ?_ | refine bkA ?_ _)); exact BK194.out) hb); have n1_ := Z0.mk (bwT (by repeat (first | (with_reducible first | exact HB.out | apply bwA | apply bwN | apply bw1 | refine bwS ?_ GE194.out) | exact HB.out)) hb); clear BK194; clear HB; have BK194 := n0_; have HB := n1_; clear n0_ n1_; (try clear hb); (try clear hb2); (try clear hk); (try clear hi); have hcz100_0 : w99.cell? ⟨gb194, 0, none⟩ = some (.int .i64 a0_0) := (bkC BK194.out 0).trans rfl; have hcz100_1 : w99.cell? ⟨gb194, 1, none⟩ = some (.int .i64 a0_1) := (bkC BK194.out 1).trans rfl; have hcz100_2 : w99.cell? ⟨gb194, 2, none⟩ = some (.int .i64 a0_2) := (bkC BK194.out 2).trans rfl; have hfz100_0 := bkF BK194.out 0; have hfz100_1 := bkF BK194.out 1; have hfz100_2 := bkF BK194.out 2) | (go_at_call 16; (refine (culletlaw16_great.calls k 0 a0_0 a0_1 a0_2 0 _ _ ([] : List (List Int)) _ _ ([] : List (List Int)) _ _ l1 false _ ?side1 ?side2 ?side3 ?side4 ?side5 ?side6 A5.out).mono ?_); (case side1 => exact Kd.C_nil _ _); (case side2 => exact Nat.le_refl _); (case side3 => exact Kd.C_nil _ _); (case side4 => exact Nat.le_refl _); (case side5 => repeat (first | exact (Kd.C_below HR1.out HB.out) | (with_reducible refine Kd.C_alloc ?_ _) | (with_reducible refine Kd.C_drewN ?_ _) | (with_reducible refine Kd.C_drew ?_))); (case side6 => exact HC1.out); rintro e w101 ⟨rfl, hb⟩; have n0_ := Z0.mk (bkB (g := gb194) (o := .cells #[.int .i64 a0_0, .int .i64 a0_1, .int .i64 a0_2] 32 (0, 0)) (by (with_reducible repeat (first | refine bkN ?_ _ | refine bkD ?_ | refine bkA ?_ _)); exact BK194.out) hb); have n1_ := Z0.mk (bwT (by repeat (first | (with_reducible first | exact HB.out | apply bwA | apply bwN | apply bw1 | refine bwS ?_ GE194.out) | exact HB.out)) hb); clear BK194; clear HB; have BK194 := n0_; have HB := n1_; clear n0_ n1_; (try clear hb); (try clear hb2); (try clear hk); (try clear hi)) | (go_at_call 15; (with_reducible refine (shape_Length.calls k a0_0 a0_1 a0_2 (l1.length : Int) t197 t198 _ A11.out).mono ?_); rintro e w' ⟨rfl, ⟨nd, rfl⟩⟩; (try first | exact ⟨rfl, _, World.drewN_drewN _ _ _⟩ | exact ⟨rfl, _, Eq.trans (World.drewN_drewN _ _ _) (congrArg (World.drewN _) (Nat.add_assoc _ _ _))⟩)) | ((with_reducible refine gate_dst (N := 46) rfl ?_); (try (refine gate_guard (by rfl) ?_; dsimp only)); refine Kd.R_lit (Kd.int .u8) _ 5 ?hg (N := 46) ?hd (xs := ([] : List Int)) (inner := []) (ok := fun _ => True) (okp := fun _ => True) ?hr ?hp (fun _ hk => hk) trivial (Below.refl _ _) (Nat.le_refl _) (by simp) ?_; (case hd => rfl); (case hg => rfl); (case hr => first | (go_simp; done) | (go_simp; rfl)); (case hp => exact (Reps.none _ _)); intro v200 w102 ho103 hb hg_ hnew_; clear hg_ hnew_; (first | rw [← Ny199.out] at ho103 | (simp only [Int.reduceToNat] at ho103; rw [← Ny199.out] at ho103)); have n0_ := Z0.mk (Kd.R_lower ho103 (bwZ (by repeat (first | (with_reducible first | exact HB.out | apply bwA | apply bwN | apply bw1 | refine bwS ?_ GE194.out) | exact HB.out)))); have n1_ := Z0.mk (bkB (g := gb194) (o := .cells #[.int .i64 a0_0, .int .i64 a0_1, .int .i64 a0_2] 32 (0, 0)) (by (with_reducible repeat (first | refine bkN ?_ _ | refine bkD ?_ | refine bkA ?_ _)); exact BK194.out) hb); have n2_ := Z0.mk (bwT (by repeat (first | (with_reducible first | exact HB.out | apply bwA | apply bwN | apply bw1 | refine bwS ?_ GE194.out) | exact HB.out)) hb); clear BK194; clear HB; have HO201 := n0_; have BK194 := n1_; have HB := n2_; clear n0_ n1_ n2_; clear hb ho103) | ((with_reducible refine gate_builtin (b := .append) (xs := #[.tmp 46, .tmp 47]) rfl ?_); (try (refine gate_guard (by rfl) ?_; dsimp only)); at_builtin; refine Kd.R_append_rows (Kd.int .u8) (w0 := w) w.heap.size rfl (.tmp 46) (.tmp 47) 27 5 (.int .u8 0) 1 rfl Try.underlying27 info5 rfl (by decide) (by omega) v200 y199 l1 _ _ _ (fun _ => True) (fun _ => False) rfl rfl ?aO ?aR (fun _ _ h => h) (fun _ h => h.elim) ?aF ?aB ?aS ?aL ?_; (case aR => repeat (first | exact (Kd.C_below HR1.out HB.out) | (with_reducible refine Kd.C_alloc ?_ _) | (with_reducible refine Kd.C_drewN ?_ _) | (with_reducible refine Kd.C_drew ?_))); (case aB => exact (by repeat (first | (with_reducible first | exact HB.out | apply bwA | apply bwN | apply bw1 | refine bwS ?_ GE194.out) | exact HB.out))); (case aF => exact (fun _ _ => trivial)); (case aO => exact (by (with_reducible repeat (first | apply Kd.R_alloc | apply Kd.R_drewN | apply Kd.R_drew)); exact HO201.out)); (case aS => exact (bwZ (by repeat (first | (with_reducible first | exact HB.out | apply bwA | apply bwN | apply bw1 | refine bwS ?_ GE194.out) | exact HB.out)))); (case aL => have := LMc12.out; omega); intro v203 w104 ho hb hg hat; rw [← Ny202.out] at ho; have n0_ := Z0.mk (blk_grown (g := gb194) (o := .cells #[.int .i64 a0_0, .int .i64 a0_1, .int .i64 a0_2] 32 (0, 0)) (by (with_reducible repeat (first | refine bkN ?_ _ | refine bkD ?_ | refine bkA ?_ _)); exact BK194.out) hg (Kd.R_ne HO201.out BK194.out (by decide))); have n1_ := Z0.mk (hb); have n2_ := Z0.mk (ho); clear BK194; clear HB; clear HO201; have BK194 := n0_; have HB := n1_; have HO204 := n2_; clear n0_ n1_ n2_; clear ho hb hg hat; obtain ⟨Ao105, co105, eo105⟩ := Kd.R_slice HO204.out; subst eo105) | (go_at_call 12; (with_reducible refine (shape_Split.calls k a0_0 a0_1 a0_2 _ _ y202 t205 t206 _ ?side1 ?side2 A13.out).mono ?_); (case side1 => repeat (first | exact (Kd.R_reads' HO204.out).2.2 | (with_reducible refine Kd.C_alloc ?_ _) | (with_reducible refine Kd.C_drewN ?_ _) | (with_reducible refine Kd.C_drew ?_))); (case side2 => exact (Kd.R_reads' HO204.out).2.1); rintro e w106 ⟨v207, rfl, ho0, hb⟩; have n0_ := Z0.mk (Kd.R_below (by (with_reducible repeat (first | apply Kd.R_alloc | apply Kd.R_drewN | apply Kd.R_drew)); exact HO204.out) hb); have n1_ := Z0.mk (Kd.S_lower (Kd.S_new' ho0 (Kd.R_lt (by (with_reducible repeat (first | apply Kd.R_alloc | apply Kd.R_drewN | apply Kd.R_drew)); exact HO204.out))) (bwZ (by repeat (first | (with_reducible first | exact HB.out | apply bwA | apply bwN | apply bw1 | refine bwS ?_ GE194.out) | exact HB.out)))); have n2_ := Z0.mk (bkB (g := gb194) (o := .cells #[.int .i64 a0_0, .int .i64 a0_1, .int .i64 a0_2] 32 (0, 0)) (by (with_reducible repeat (first | refine bkN ?_ _ | refine bkD ?_ | refine bkA ?_ _)); exact BK194.out) hb); have n3_ := Z0.mk (bwT (by repeat (first | (with_reducible first | exact HB.out | apply bwA | apply bwN | apply bw1 | refine bwS ?_ GE194.out) | exact HB.out)) hb); clear HO204; clear BK194; clear HB; have HO204 := n0_; have HO208 := n1_; have BK194 := n2_; have HB := n3_; clear n0_ n1_ n2_ n3_; (try clear hb); (try clear hb2); (try clear hk); (try clear hi); (try clear ho0))); try go_wp2_with (first | ((with_reducible refine gate_dst (N := 2) rfl ?_); (try (refine gate_guard (by rfl) ?_; dsimp only)); refine box_event ?hg (N := 2) ?hd (cs := #[.int .i64 a0_0, .int .i64 a0_1, .int .i64 a0_2]) (t := 32) ?hr ?_; (case hd => rfl); (case hg => rfl); (case hr => first | (go_simp; done) | (go_simp; rfl)); intro gb194 hg w98 hbox hb; have n0_ := Z0.mk (bwT (by repeat (first | (with_reducible first | exact HB.out | apply bwA | apply bwN | apply bw1) | exact HB.out)) hb); have n1_ := Z0.mk (hbox); have n2_ := Z0.mk ((by rw [hg]; exact (bwZ (by repeat (first | (with_reducible first | exact HB.out | apply bwA | apply bwN | apply bw1) | exact HB.out))) : w.heap.size ≤ gb194)); have n3_ := Z0.mk ((by rw [hg]; exact (bwZ (by repeat (first | (with_reducible first | exact HB.out | apply bwA | apply bwN | apply bw1) | exact HB.out))) : w.heap.size ≤ gb194)); clear HB; have HB := n0_; have BK194 := n1_; have GW194 := n2_; have GE194 := n3_; clear n0_ n1_ n2_ n3_; clear hb hbox hg) | (go_at_call 13; (with_reducible refine (culletlaw16_awake.calls k  true _ A3.out).mono ?_); rintro e w99 ⟨rfl, hb⟩; have n0_ := Z0.mk (bkB (g := gb194) (o := .cells #[.int .i64 a0_0, .int .i64 a0_1, .int .i64 a0_2] 32 (0, 0)) (by (with_reducible repeat (first | refine bkN ?_ _ | refine bkD ?_ | refine bkA ?_ _)); exact BK194.out) hb); have n1_ := Z0.mk (bwT (by repeat (first | (with_reducible first | exact HB.out | apply bwA | apply bwN | apply bw1 | refine bwS ?_ GE194.out) | exact HB.out)) hb); clear BK194; clear HB; have BK194 := n0_; have HB := n1_; clear n0_ n1_; (try clear hb); (try clear hb2); (try clear hk); (try clear hi); have hcz100_0 : w99.cell? ⟨gb194, 0, none⟩ = some (.int .i64 a0_0) := (bkC BK194.out 0).trans rfl; have hcz100_1 : w99.cell? ⟨gb194, 1, none⟩ = some (.int .i64 a0_1) := (bkC BK194.out 1).trans rfl; have hcz100_2 : w99.cell? ⟨gb194, 2, none⟩ = some (.int .i64 a0_2) := (bkC BK194.out 2).trans rfl; have hfz100_0 := bkF BK194.out 0; have hfz100_1 := bkF BK194.out 1; have hfz100_2 := bkF BK194.out 2) | (go_at_call 16; (refine (culletlaw16_great.calls k 0 a0_0 a0_1 a0_2 0 _ _ ([] : List (List Int)) _ _ ([] : List (List Int)) _ _ l1 false _ ?side1 ?side2 ?side3 ?side4 ?side5 ?side6 A5.out).mono ?_); (case side1 => exact Kd.C_nil _ _); (case side2 => exact Nat.le_refl _); (case side3 => exact Kd.C_nil _ _); (case side4 => exact Nat.le_refl _); (case side5 => repeat (first | exact (Kd.C_below HR1.out HB.out) | (with_reducible refine Kd.C_alloc ?_ _) | (with_reducible refine Kd.C_drewN ?_ _) | (with_reducible refine Kd.C_drew ?_))); (case side6 => exact HC1.out); rintro e w101 ⟨rfl, hb⟩; have n0_ := Z0.mk (bkB (g := gb194) (o := .cells #[.int .i64 a0_0, .int .i64 a0_1, .int .i64 a0_2] 32 (0, 0)) (by (with_reducible repeat (first | refine bkN ?_ _ | refine bkD ?_ | refine bkA ?_ _)); exact BK194.out) hb); have n1_ := Z0.mk (bwT (by repeat (first | (with_reducible first | exact HB.out | apply bwA | apply bwN | apply bw1 | refine bwS ?_ GE194.out) | exact HB.out)) hb); clear BK194; clear HB; have BK194 := n0_; have HB := n1_; clear n0_ n1_; (try clear hb); (try clear hb2); (try clear hk); (try clear hi)) | (go_at_call 15; (with_reducible refine (shape_Length.calls k a0_0 a0_1 a0_2 (l1.length : Int) t197 t198 _ A11.out).mono ?_); rintro e w' ⟨rfl, ⟨nd, rfl⟩⟩; (try first | exact ⟨rfl, _, World.drewN_drewN _ _ _⟩ | exact ⟨rfl, _, Eq.trans (World.drewN_drewN _ _ _) (congrArg (World.drewN _) (Nat.add_assoc _ _ _))⟩)) | ((with_reducible refine gate_dst (N := 46) rfl ?_); (try (refine gate_guard (by rfl) ?_; dsimp only)); refine Kd.R_lit (Kd.int .u8) _ 5 ?hg (N := 46) ?hd (xs := ([] : List Int)) (inner := []) (ok := fun _ => True) (okp := fun _ => True) ?hr ?hp (fun _ hk => hk) trivial (Below.refl _ _) (Nat.le_refl _) (by simp) ?_; (case hd => rfl); (case hg => rfl); (case hr => first | (go_simp; done) | (go_simp; rfl)); (case hp => exact (Reps.none _ _)); intro v200 w102 ho103 hb hg_ hnew_; clear hg_ hnew_; (first | rw [← Ny199.out] at ho103 | (simp only [Int.reduceToNat] at ho103; rw [← Ny199.out] at ho103)); have n0_ := Z0.mk (Kd.R_lower ho103 (bwZ (by repeat (first | (with_reducible first | exact HB.out | apply bwA | apply bwN | apply bw1 | refine bwS ?_ GE194.out) | exact HB.out)))); have n1_ := Z0.mk (bkB (g := gb194) (o := .cells #[.int .i64 a0_0, .int .i64 a0_1, .int .i64 a0_2] 32 (0, 0)) (by (with_reducible repeat (first | refine bkN ?_ _ | refine bkD ?_ | refine bkA ?_ _)); exact BK194.out) hb); have n2_ := Z0.mk (bwT (by repeat (first | (with_reducible first | exact HB.out | apply bwA | apply bwN | apply bw1 | refine bwS ?_ GE194.out) | exact HB.out)) hb); clear BK194; clear HB; have HO201 := n0_; have BK194 := n1_; have HB := n2_; clear n0_ n1_ n2_; clear hb ho103) | ((with_reducible refine gate_builtin (b := .append) (xs := #[.tmp 46, .tmp 47]) rfl ?_); (try (refine gate_guard (by rfl) ?_; dsimp only)); at_builtin; refine Kd.R_append_rows (Kd.int .u8) (w0 := w) w.heap.size rfl (.tmp 46) (.tmp 47) 27 5 (.int .u8 0) 1 rfl Try.underlying27 info5 rfl (by decide) (by omega) v200 y199 l1 _ _ _ (fun _ => True) (fun _ => False) rfl rfl ?aO ?aR (fun _ _ h => h) (fun _ h => h.elim) ?aF ?aB ?aS ?aL ?_; (case aR => repeat (first | exact (Kd.C_below HR1.out HB.out) | (with_reducible refine Kd.C_alloc ?_ _) | (with_reducible refine Kd.C_drewN ?_ _) | (with_reducible refine Kd.C_drew ?_))); (case aB => exact (by repeat (first | (with_reducible first | exact HB.out | apply bwA | apply bwN | apply bw1 | refine bwS ?_ GE194.out) | exact HB.out))); (case aF => exact (fun _ _ => trivial)); (case aO => exact (by (with_reducible repeat (first | apply Kd.R_alloc | apply Kd.R_drewN | apply Kd.R_drew)); exact HO201.out)); (case aS => exact (bwZ (by repeat (first | (with_reducible first | exact HB.out | apply bwA | apply bwN | apply bw1 | refine bwS ?_ GE194.out) | exact HB.out)))); (case aL => have := LMc12.out; omega); intro v203 w104 ho hb hg hat; rw [← Ny202.out] at ho; have n0_ := Z0.mk (blk_grown (g := gb194) (o := .cells #[.int .i64 a0_0, .int .i64 a0_1, .int .i64 a0_2] 32 (0, 0)) (by (with_reducible repeat (first | refine bkN ?_ _ | refine bkD ?_ | refine bkA ?_ _)); exact BK194.out) hg (Kd.R_ne HO201.out BK194.out (by decide))); have n1_ := Z0.mk (hb); have n2_ := Z0.mk (ho); clear BK194; clear HB; clear HO201; have BK194 := n0_; have HB := n1_; have HO204 := n2_; clear n0_ n1_ n2_; clear ho hb hg hat; obtain ⟨Ao105, co105, eo105⟩ := Kd.R_slice HO204.out; subst eo105) | (go_at_call 12; (with_reducible refine (shape_Split.calls k a0_0 a0_1 a0_2 _ _ y202 t205 t206 _ ?side1 ?side2 A13.out).mono ?_); (case side1 => repeat (first | exact (Kd.R_reads' HO204.out).2.2 | (with_reducible refine Kd.C_alloc ?_ _) | (with_reducible refine Kd.C_drewN ?_ _) | (with_reducible refine Kd.C_drew ?_))); (case side2 => exact (Kd.R_reads' HO204.out).2.1); rintro e w106 ⟨v207, rfl, ho0, hb⟩; have n0_ := Z0.mk (Kd.R_below (by (with_reducible repeat (first | apply Kd.R_alloc | apply Kd.R_drewN | apply Kd.R_drew)); exact HO204.out) hb); have n1_ := Z0.mk (Kd.S_lower (Kd.S_new' ho0 (Kd.R_lt (by (with_reducible repeat (first | apply Kd.R_alloc | apply Kd.R_drewN | apply Kd.R_drew)); exact HO204.out))) (bwZ (by repeat (first | (with_reducible first | exact HB.out | apply bwA | apply bwN | apply bw1 | refine bwS ?_ GE194.out) | exact HB.out)))); have n2_ := Z0.mk (bkB (g := gb194) (o := .cells #[.int .i64 a0_0, .int .i64 a0_1, .int .i64 a0_2] 32 (0, 0)) (by (with_reducible repeat (first | refine bkN ?_ _ | refine bkD ?_ | refine bkA ?_ _)); exact BK194.out) hb); have n3_ := Z0.mk (bwT (by repeat (first | (with_reducible first | exact HB.out | apply bwA | apply bwN | apply bw1 | refine bwS ?_ GE194.out) | exact HB.out)) hb); clear HO204; clear BK194; clear HB; have HO204 := n0_; have HO208 := n1_; have BK194 := n2_; have HB := n3_; clear n0_ n1_ n2_ n3_; (try clear hb); (try clear hb2); (try clear hk); (try clear hi); (try clear ho0))))
            go_ret
            exact ⟨by first | rfl | (simp [ewN, ewS] <;> rfl) | (simp [*, ewN, ewS] <;> rfl), by repeat (first | (with_reducible first | exact HB.out | apply bwA | apply bwN | apply bw1 | refine bwS ?_ GE194.out) | exact HB.out)⟩
      · rw [if_neg c12] at H
        exact absurd H (by simp)
  · replace c4 := Bool.eq_false_iff.mpr c4
    subst c4
    have H1 : (some false) = some r := by rw [if_neg (show ¬ (false = true) by decide)] at H; exact H
    clear H
    have H := H1
    clear H1
    obtain rfl := Option.some.inj H
    go_enter Try.func6, Try.ntmps6
    go_wp2_with (first | ((with_reducible refine gate_dst (N := 2) rfl ?_); (try (refine gate_guard (by rfl) ?_; dsimp only)); refine box_event ?hg (N := 2) ?hd (cs := #[.int .i64 a0_0, .int .i64 a0_1, .int .i64 a0_2]) (t := 32) ?hr ?_; (case hd => rfl); (case hg => rfl); (case hr => first | (go_simp; done) | (go_simp; rfl)); intro gb194 hg w107 hbox hb; have n0_ := Z0.mk (bwT (by repeat (first | (with_reducible first | exact HB.out | apply bwA | apply bwN | apply bw1) | exact HB.out)) hb); have n1_ := Z0.mk (hbox); have n2_ := Z0.mk ((by rw [hg]; exact (bwZ (by repeat (first | (with_reducible first | exact HB.out | apply bwA | apply bwN | apply bw1) | exact HB.out))) : w.heap.size ≤ gb194)); have n3_ := Z0.mk ((by rw [hg]; exact (bwZ (by repeat (first | (with_reducible first | exact HB.out | apply bwA | apply bwN | apply bw1) | exact HB.out))) : w.heap.size ≤ gb194)); clear HB; have HB := n0_; have BK194 := n1_; have GW194 := n2_; have GE194 := n3_; clear n0_ n1_ n2_ n3_; clear hb hbox hg) | (go_at_call 13; (with_reducible refine (culletlaw16_awake.calls k  false _ A3.out).mono ?_); rintro e w108 ⟨rfl, hb⟩; have n0_ := Z0.mk (bkB (g := gb194) (o := .cells #[.int .i64 a0_0, .int .i64 a0_1, .int .i64 a0_2] 32 (0, 0)) (by (with_reducible repeat (first | refine bkN ?_ _ | refine bkD ?_ | refine bkA ?_ _)); exact BK194.out) hb); have n1_ := Z0.mk (bwT (by repeat (first | (with_reducible first | exact HB.out | apply bwA | apply bwN | apply bw1 | refine bwS ?_ GE194.out) | exact HB.out)) hb); clear BK194; clear HB; have BK194 := n0_; have HB := n1_; clear n0_ n1_; (try clear hb); (try clear hb2); (try clear hk); (try clear hi)))
    repeat (go_quiet (first | ((with_reducible refine gate_dst (N := 2) rfl ?_); (try (refine gate_guard (by rfl) ?_; dsimp only)); refine box_event ?hg (N := 2) ?hd (cs := #[.int .i64 a0_0, .int .i64 a0_1, .int .i64 a0_2]) (t := 32) ?hr ?_; (case hd => rfl); (case hg => rfl); (case hr => first | (go_simp; done) | (go_simp; rfl)); intro gb194 hg w107 hbox hb; have n0_ := Z0.mk (bwT (by repeat (first | (with_reducible first | exact HB.out | apply bwA | apply bwN | apply bw1) | exact HB.out)) hb); have n1_ := Z0.mk (hbox); have n2_ := Z0.mk ((by rw [hg]; exact (bwZ (by repeat (first | (with_reducible first | exact HB.out | apply bwA | apply bwN | apply bw1) | exact HB.out))) : w.heap.size ≤ gb194)); have n3_ := Z0.mk ((by rw [hg]; exact (bwZ (by repeat (first | (with_reducible first | exact HB.out | apply bwA | apply bwN | apply bw1) | exact HB.out))) : w.heap.size ≤ gb194)); clear HB; have HB := n0_; have BK194 := n1_; have GW194 := n2_; have GE194 := n3_; clear n0_ n1_ n2_ n3_; clear hb hbox hg) | (go_at_call 13; (with_reducible refine (culletlaw16_awake.calls k  false _ A3.out).mono ?_); rintro e w108 ⟨rfl, hb⟩; have n0_ := Z0.mk (bkB (g := gb194) (o := .cells #[.int .i64 a0_0, .int .i64 a0_1, .int .i64 a0_2] 32 (0, 0)) (by (with_reducible repeat (first | refine bkN ?_ _ | refine bkD ?_ | refine bkA ?_ _)); exact BK194.out) hb); have n1_ := Z0.mk (bwT (by repeat (first | (with_reducible first | exact HB.out | apply bwA | apply bwN | apply bw1 | refine bwS ?_ GE194.out) | exact HB.out)) hb); clear BK194; clear HB; have BK194 := n0_; have HB := n1_; clear n0_ n1_; (try clear hb); (try clear hb2); (try clear hk); (try clear hi))); try go_wp2_with (first | ((with_reducible refine gate_dst (N := 2) rfl ?_); (try (refine gate_guard (by rfl) ?_; dsimp only)); refine box_event ?hg (N := 2) ?hd (cs := #[.int .i64 a0_0, .int .i64 a0_1, .int .i64 a0_2]) (t := 32) ?hr ?_; (case hd => rfl); (case hg => rfl); (case hr => first | (go_simp; done) | (go_simp; rfl)); intro gb194 hg w107 hbox hb; have n0_ := Z0.mk (bwT (by repeat (first | (with_reducible first | exact HB.out | apply bwA | apply bwN | apply bw1) | exact HB.out)) hb); have n1_ := Z0.mk (hbox); have n2_ := Z0.mk ((by rw [hg]; exact (bwZ (by repeat (first | (with_reducible first | exact HB.out | apply bwA | apply bwN | apply bw1) | exact HB.out))) : w.heap.size ≤ gb194)); have n3_ := Z0.mk ((by rw [hg]; exact (bwZ (by repeat (first | (with_reducible first | exact HB.out | apply bwA | apply bwN | apply bw1) | exact HB.out))) : w.heap.size ≤ gb194)); clear HB; have HB := n0_; have BK194 := n1_; have GW194 := n2_; have GE194 := n3_; clear n0_ n1_ n2_ n3_; clear hb hbox hg) | (go_at_call 13; (with_reducible refine (culletlaw16_awake.calls k  false _ A3.out).mono ?_); rintro e w108 ⟨rfl, hb⟩; have n0_ := Z0.mk (bkB (g := gb194) (o := .cells #[.int .i64 a0_0, .int .i64 a0_1, .int .i64 a0_2] 32 (0, 0)) (by (with_reducible repeat (first | refine bkN ?_ _ | refine bkD ?_ | refine bkA ?_ _)); exact BK194.out) hb); have n1_ := Z0.mk (bwT (by repeat (first | (with_reducible first | exact HB.out | apply bwA | apply bwN | apply bw1 | refine bwS ?_ GE194.out) | exact HB.out)) hb); clear BK194; clear HB; have BK194 := n0_; have HB := n1_; clear n0_ n1_; (try clear hb); (try clear hb2); (try clear hk); (try clear hi))))
    go_ret
    exact ⟨by first | rfl | (simp [ewN, ewS] <;> rfl) | (simp [*, ewN, ewS] <;> rfl), by repeat (first | (with_reducible first | exact HB.out | apply bwA | apply bwN | apply bw1 | refine bwS ?_ GE194.out) | exact HB.out)⟩

end Go.Proofs.Ytcbjabnnokjnpaa.PA
