-- Written by a program of this session (wip/drive.py, merge.py) for this seat.
import Derived.Test.YtcbjabnnokjnpaaPAx0
namespace Go.Proofs.Ytcbjabnnokjnpaa.PA
open Go.RowKit Go.Proofs.YtcbjabnnokjnpaaW.PrintWords Go.Proofs.YtcbjabnnokjnpaaW.PrintLast Go.Proofs.YtcbjabnnokjnpaaW.PrintMore
attribute [local go_sem] max2_int min2_int max_two min_two max_three min_three max_four min_four   -- for this text's walks alone
set_option linter.unusedVariables false
set_option linter.unusedSimpArgs false

/-! ### culletlaw16_heavy: function 31 -/
def culletlaw16_heavy.l0 : Nat → List (List Int) → Int → Int → Option (Bool)
  | 0, _, _, _ => none
  | k + 1, x0, x3, x4 => if x4 < (x0.length : Int) then (if x3 ≤ 4194304 then (if 0 ≤ x4 then (culletlaw16_heavy.l0 k x0 (wrap64 (x3 + ((rd_L2 x0 x4).length : Int))) (wrap64 (x4 + 1))) else (none)) else (some (decide (x3 > 4194304)))) else (some (decide (x3 > 4194304)))
def culletlaw16_heavy.f (k : Nat) (l0 : List (List Int)) : Option (Bool) := culletlaw16_heavy.l0 k l0 (l0.length : Int) 0
theorem culletlaw16_heavy.mono_l : ∀ k, (∀ y0 y1 y2, LeO (culletlaw16_heavy.l0 k y0 y1 y2) (culletlaw16_heavy.l0 (k + 1) y0 y1 y2))
  | 0 => fun _ _ _ r h => by simp [culletlaw16_heavy.l0] at h
  | k + 1 => by
    have ih0 := culletlaw16_heavy.mono_l k
    · intro y0 y1 y2
      unfold culletlaw16_heavy.l0
      repeat' first
      | (with_reducible exact ih0 _ _ _)
      | (with_reducible exact LeO.refl _)
      | (with_reducible exact LeO.none _)
      | (with_reducible refine LeO.ite ?_ ?_)
      | (with_reducible refine LeO.bind ?_ (fun _ => ?_))
      | exact ih0 _ _ _
      | exact LeO.none _
      | refine LeO.ite ?_ ?_
      | refine LeO.bind ?_ (fun _ => ?_)
theorem culletlaw16_heavy.mono : ∀ a0 k, LeO (culletlaw16_heavy.f k a0) (culletlaw16_heavy.f (k + 1) a0) := by
  intro a0 k
  have ih0 := culletlaw16_heavy.mono_l k
  unfold culletlaw16_heavy.f
  repeat' first
      | (with_reducible exact ih0 _ _ _)
      | (with_reducible exact LeO.refl _)
      | (with_reducible exact LeO.none _)
      | (with_reducible refine LeO.ite ?_ ?_)
      | (with_reducible refine LeO.bind ?_ (fun _ => ?_))
      | exact ih0 _ _ _
      | exact LeO.none _
      | refine LeO.ite ?_ ?_
      | refine LeO.bind ?_ (fun _ => ?_)
set_option maxHeartbeats 8000000 in
set_option maxRecDepth 100000 in
theorem culletlaw16_heavy.calls (k : Nat) (A0 : Option Addr) (c0 : Nat) (l0 : List (List Int)) (r : Bool) (w : World) (hr0 : Kd.C (Kd.slice 5 (Kd.int .u8)) w A0 l0.length l0) (hc0 : l0.length ≤ c0) (h : culletlaw16_heavy.f k l0 = some r) :
    Calls Try.prog 31 #[.slice A0 l0.length c0] w fun e w' => e = .returned (.bool r) ∧ Drawn0 w w' := by
  have HR0 := Z0.mk hr0
  have HC0 := Z0.mk hc0
  clear hr0 hc0
  have H : (culletlaw16_heavy.l0 k l0 (l0.length : Int) 0) = some r := h
  clear h
  have H' := Z0.mk H
  clear H
  go_enter Try.func31, Try.ntmps31
  go_wp2
  go_loopg [3, 4] k (fun kq v3 v4 w' => ∃ (x3_1 : Int) (x4_1 : Int), v3 = .int .i64 x3_1 ∧ v4 = .int .i64 x4_1 ∧ Z0 (culletlaw16_heavy.l0 kq l0 x3_1 x4_1 = some r) ∧ Z0 (kq ≤ k) ∧ Drawn0 w w')
  case atStart => exact ⟨((l0.length : Int)), (0), (by first | rfl | (simp; done) | (simp [*]; done)), (by first | rfl | (simp; done) | (simp [*]; done)), H', ⟨Nat.le_refl _⟩, by repeat (first | exact Drawn0.refl _ | apply Drawn0.step)⟩
  case round =>
    clear H'
    obtain ⟨x3_1, x4_1, rfl, rfl, HA, HK1, ⟨m1, rfl⟩⟩ := hrel
    cases gk with
    | zero => exact absurd HA.out (by simp [culletlaw16_heavy.l0])
    | succ k1 =>
      have H := HA.out
      clear HA
      simp only [culletlaw16_heavy.l0] at H
      by_cases c2 : x4_1 < (l0.length : Int)
      · rw [if_pos c2] at H
        have c2b0 : decide (x4_1 < (l0.length : Int)) = true := decide_eq_true c2
        clear c2
        by_cases c3 : x3_1 ≤ 4194304
        · rw [if_pos c3] at H
          have c3b0 : decide (x3_1 ≤ 4194304) = true := decide_eq_true c3
          clear c3
          by_cases c4 : 0 ≤ x4_1
          · rw [if_pos c4] at H
            have c4b0 : decide (0 ≤ x4_1) = true := decide_eq_true c4
            clear c4
            have H' := Z0.mk H
            clear H
            have p150 : 0 ≤ (x4_1 : Int) := of_decide_eq_true (by first | (with_reducible assumption) | assumption)
            have q150 : x4_1 < (l0.length : Int) := of_decide_eq_true (by first | (with_reducible assumption) | assumption)
            obtain ⟨ad150, A150_0, c150_0, e150, hx150_0, hl150_0, hi150_0⟩ := at_L2 HR0.out x4_1 p150 q150
            cases e150
            have HR150_0 := Z0.mk hi150_0
            have HC150_0 := Z0.mk hl150_0
            clear hi150_0 hl150_0
            replace p150 := eq_true p150
            replace q150 := eq_true q150
            go_wp2
            go_roundg k1
            case measure => have := HK1.out; omega
            case rel => exact ⟨(wrap64 (x3_1 + ((rd_L2 l0 x4_1).length : Int))), (wrap64 (x4_1 + 1)), (by first | rfl | (simp; done) | (simp [*]; done)), (by first | rfl | (simp; done) | (simp [*]; done)), H', ⟨by have := HK1.out; omega⟩, by repeat (first | exact Drawn0.refl _ | apply Drawn0.step)⟩
          · rw [if_neg c4] at H
            exact absurd H (by simp)
        · rw [if_neg c3] at H
          have c3b0 : decide (x3_1 ≤ 4194304) = false := decide_eq_false c3
          clear c3
          obtain rfl := Option.some.inj H
          go_wp2
          go_ret
          exact ⟨by first | rfl | (simp; done) | (simp [*]; done), by repeat (first | exact Drawn0.refl _ | apply Drawn0.step)⟩
      · rw [if_neg c2] at H
        have c2b0 : decide (x4_1 < (l0.length : Int)) = false := decide_eq_false c2
        clear c2
        obtain rfl := Option.some.inj H
        go_wp2
        go_ret
        exact ⟨by first | rfl | (simp; done) | (simp [*]; done), by repeat (first | exact Drawn0.refl _ | apply Drawn0.step)⟩

end Go.Proofs.Ytcbjabnnokjnpaa.PA

namespace Go.Proofs.Ytcbjabnnokjnpaa.PA
open Go.RowKit Go.Proofs.YtcbjabnnokjnpaaW.PrintWords Go.Proofs.YtcbjabnnokjnpaaW.PrintLast Go.Proofs.YtcbjabnnokjnpaaW.PrintMore
attribute [local go_sem] max2_int min2_int max_two min_two max_three min_three max_four min_four   -- for this text's walks alone
set_option linter.unusedVariables false
set_option linter.unusedSimpArgs false

/-! ### culletref16_Pow2: function 35 -/
mutual
def culletref16_Pow2.j0 : Nat → Int → Bool → Option (Int × Int)
  | 0, _, _ => none
  | k + 1, x0, x10 => if x10 = true then (some (0, 7)) else (culletref16_Pow2.l0 k x0 1)
def culletref16_Pow2.l0 : Nat → Int → Int → Option (Int × Int)
  | 0, _, _ => none
  | k + 1, x0, x4 => if x4 < x0 then (culletref16_Pow2.l0 k x0 (wrap64 (2 * x4))) else (some (x4, 0))
end
def culletref16_Pow2.f (k : Nat) (a0 : Int) : Option (Int × Int) := if a0 < 1 then (culletref16_Pow2.j0 k a0 true) else (culletref16_Pow2.j0 k a0 (decide (a0 > 65536)))
theorem culletref16_Pow2.mono_l : ∀ k, (∀ y0 y1, LeO (culletref16_Pow2.j0 k y0 y1) (culletref16_Pow2.j0 (k + 1) y0 y1)) ∧ (∀ y0 y1, LeO (culletref16_Pow2.l0 k y0 y1) (culletref16_Pow2.l0 (k + 1) y0 y1))
  | 0 => ⟨fun _ _ r h => by simp [culletref16_Pow2.j0] at h, fun _ _ r h => by simp [culletref16_Pow2.l0] at h⟩
  | k + 1 => by
    obtain ⟨ih0, ih1⟩ := culletref16_Pow2.mono_l k
    refine ⟨?_, ?_⟩
    · intro y0 y1
      unfold culletref16_Pow2.j0
      repeat' first
      | (with_reducible exact ih0 _ _)
      | (with_reducible exact ih1 _ _)
      | (with_reducible exact LeO.refl _)
      | (with_reducible exact LeO.none _)
      | (with_reducible refine LeO.ite ?_ ?_)
      | (with_reducible refine LeO.bind ?_ (fun _ => ?_))
      | exact ih0 _ _
      | exact ih1 _ _
      | exact LeO.none _
      | refine LeO.ite ?_ ?_
      | refine LeO.bind ?_ (fun _ => ?_)
    · intro y0 y1
      unfold culletref16_Pow2.l0
      repeat' first
      | (with_reducible exact ih0 _ _)
      | (with_reducible exact ih1 _ _)
      | (with_reducible exact LeO.refl _)
      | (with_reducible exact LeO.none _)
      | (with_reducible refine LeO.ite ?_ ?_)
      | (with_reducible refine LeO.bind ?_ (fun _ => ?_))
      | exact ih0 _ _
      | exact ih1 _ _
      | exact LeO.none _
      | refine LeO.ite ?_ ?_
      | refine LeO.bind ?_ (fun _ => ?_)
theorem culletref16_Pow2.mono : ∀ a0 k, LeO (culletref16_Pow2.f k a0) (culletref16_Pow2.f (k + 1) a0) := by
  intro a0 k
  obtain ⟨ih0, ih1⟩ := culletref16_Pow2.mono_l k
  unfold culletref16_Pow2.f
  repeat' first
      | (with_reducible exact ih0 _ _)
      | (with_reducible exact ih1 _ _)
      | (with_reducible exact LeO.refl _)
      | (with_reducible exact LeO.none _)
      | (with_reducible refine LeO.ite ?_ ?_)
      | (with_reducible refine LeO.bind ?_ (fun _ => ?_))
      | exact ih0 _ _
      | exact ih1 _ _
      | exact LeO.none _
      | refine LeO.ite ?_ ?_
      | refine LeO.bind ?_ (fun _ => ?_)
set_option maxHeartbeats 8000000 in
set_option maxRecDepth 100000 in
theorem culletref16_Pow2.calls (k : Nat) (a0 : Int) (r1 : Int) (r2 : Int) (w : World) (h : culletref16_Pow2.f k a0 = some (r1, r2)) :
    Calls Try.prog 35 #[.int .i64 a0] w fun e w' => e = .returned (.tuple #[.int .i64 r1, .int .i64 r2]) ∧ Drawn0 w w' := by
  have H : (if a0 < 1 then (culletref16_Pow2.j0 k a0 true) else (culletref16_Pow2.j0 k a0 (decide (a0 > 65536)))) = some (r1, r2) := h
  clear h
  have HC2 := Z0.mk H
  clear H
  go_enter Try.func35, Try.ntmps35
  go_upto_region 1 with (fail)
  go_cut [10] (fun v10 wc => ∃ (kq : Nat) (x10_1 : Bool), v10 = .bool x10_1 ∧ Z0 (culletref16_Pow2.j0 kq a0 x10_1 = some (r1, r2)) ∧ Z0 (kq ≤ k) ∧ Drawn0 w wc)
  case first =>
    have H := HC2.out
    clear HC2
    by_cases c3 : a0 < 1
    · rw [if_pos c3] at H
      have c3b0 : decide (a0 < 1) = true := decide_eq_true c3
      clear c3
      (first | rw [c3b0] | (simp only [i64_w, i32_w]; rw [c3b0]) | skip)
      have H' := Z0.mk H
      clear H
      go_wp2
      go_meet
      case rel => exact ⟨_, (true), (by first | rfl | (simp; done) | (simp [*]; done)), H', ⟨by first | omega | exact Nat.le_refl _⟩, by repeat (first | exact Drawn0.refl _ | apply Drawn0.step)⟩
    · rw [if_neg c3] at H
      have c3b0 : decide (a0 < 1) = false := decide_eq_false c3
      clear c3
      (first | rw [c3b0] | (simp only [i64_w, i32_w]; rw [c3b0]) | skip)
      have H' := Z0.mk H
      clear H
      go_wp2
      go_meet
      case rel => exact ⟨_, (decide (a0 > 65536)), (by first | rfl | (simp; done) | (simp [*]; done)), H', ⟨by first | omega | exact Nat.le_refl _⟩, by repeat (first | exact Drawn0.refl _ | apply Drawn0.step)⟩
  case rest =>
    clear HC2
    try clear p2
    try clear c3
    try clear c3b0
    obtain ⟨kq, x10_1, rfl, HA, HJ1, ⟨mc1, rfl⟩⟩ := hcut
    cases kq with
    | zero => exact absurd HA.out (by simp [culletref16_Pow2.j0])
    | succ kj1 =>
      have H := HA.out
      clear HA
      simp only [culletref16_Pow2.j0] at H
      by_cases c4 : x10_1 = true
      · subst c4
        have H1 : (some (0, 7)) = some (r1, r2) := by rw [if_pos rfl] at H; exact H
        clear H
        have H := H1
        clear H1
        simp only [Option.some.injEq, Prod.mk.injEq] at H
        obtain ⟨rfl, rfl⟩ := H
        go_wp2
        go_ret2
        exact ⟨by first | rfl | (simp; done) | (simp [*]; done), by repeat (first | exact Drawn0.refl _ | apply Drawn0.step)⟩
      · replace c4 := Bool.eq_false_iff.mpr c4
        subst c4
        have H1 : (culletref16_Pow2.l0 kj1 a0 1) = some (r1, r2) := by rw [if_neg (show ¬ (false = true) by decide)] at H; exact H
        clear H
        have H := H1
        clear H1
        have H' := Z0.mk H
        clear H
        go_wp2
        go_loopg [4] kj1 (fun kq v4 w' => ∃ (x4_2 : Int), v4 = .int .i64 x4_2 ∧ Z0 (culletref16_Pow2.l0 kq a0 x4_2 = some (r1, r2)) ∧ Z0 (kq ≤ kj1) ∧ Drawn0 w w')
        case atStart => exact ⟨(1), (by first | rfl | (simp; done) | (simp [*]; done)), H', ⟨Nat.le_refl _⟩, by repeat (first | exact Drawn0.refl _ | apply Drawn0.step)⟩
        case round =>
          clear H'
          try clear c1
          try clear p2
          try clear c3
          try clear c3b0
          try clear c4
          try clear p2
          obtain ⟨x4_2, rfl, HA, HK2, ⟨m2, rfl⟩⟩ := hrel
          cases gk with
          | zero => exact absurd HA.out (by simp [culletref16_Pow2.l0])
          | succ k2 =>
            have H := HA.out
            clear HA
            simp only [culletref16_Pow2.l0] at H
            by_cases c5 : x4_2 < a0
            · rw [if_pos c5] at H
              have c5b0 : decide (x4_2 < a0) = true := decide_eq_true c5
              clear c5
              have H' := Z0.mk H
              clear H
              go_wp2
              go_roundg k2
              case measure => have := HJ1.out; have := HK2.out; omega
              case rel => exact ⟨(wrap64 (2 * x4_2)), (by first | rfl | (simp; done) | (simp [*]; done)), H', ⟨by have := HJ1.out; have := HK2.out; omega⟩, by repeat (first | exact Drawn0.refl _ | apply Drawn0.step)⟩
            · rw [if_neg c5] at H
              have c5b0 : decide (x4_2 < a0) = false := decide_eq_false c5
              clear c5
              simp only [Option.some.injEq, Prod.mk.injEq] at H
              obtain ⟨rfl, rfl⟩ := H
              go_wp2
              go_ret2
              exact ⟨by first | rfl | (simp; done) | (simp [*]; done), by repeat (first | exact Drawn0.refl _ | apply Drawn0.step)⟩

end Go.Proofs.Ytcbjabnnokjnpaa.PA

namespace Go.Proofs.Ytcbjabnnokjnpaa.PA
open Go.RowKit Go.Proofs.YtcbjabnnokjnpaaW.PrintWords Go.Proofs.YtcbjabnnokjnpaaW.PrintLast Go.Proofs.YtcbjabnnokjnpaaW.PrintMore
attribute [local go_sem] max2_int min2_int max_two min_two max_three min_three max_four min_four   -- for this text's walks alone
set_option linter.unusedVariables false
set_option linter.unusedSimpArgs false

/-! ### culletref16_Params: function 20 -/
mutual
def culletref16_Params.j0 : Nat → Int → Int → Int → Bool → Option (Int)
  | 0, _, _, _, _ => none
  | k + 1, x0, x1, x2, x18 => if x18 = true then (some 2) else (if x1 < 1 then (culletref16_Params.j1 k x0 x1 x2 true) else (if x2 < 1 then (culletref16_Params.j1 k x0 x1 x2 true) else (if x1 > 65536 then (culletref16_Params.j1 k x0 x1 x2 true) else (culletref16_Params.j1 k x0 x1 x2 (decide (x2 > 65536))))))
def culletref16_Params.j1 : Nat → Int → Int → Int → Bool → Option (Int)
  | 0, _, _, _, _ => none
  | k + 1, x0, x1, x2, x32 => if x32 = true then (some 4) else (if x0 = 2 then ((culletref16_Pow2.f k x2).bind fun bt151 => (if (wrap64 (bt151.1 + x1)) > 65536 then (some 4) else (some 0))) else (if (wrap64 (x1 + x2)) > 256 then (some 4) else (some 0)))
end
def culletref16_Params.f (k : Nat) (a0 : Int) (a1 : Int) (a2 : Int) : Option (Int) := if a0 = 0 then (culletref16_Params.j0 k a0 a1 a2 false) else (if a0 = 1 then (culletref16_Params.j0 k a0 a1 a2 false) else (culletref16_Params.j0 k a0 a1 a2 (a0 != 2)))
theorem culletref16_Params.mono_l : ∀ k, (∀ y0 y1 y2 y3, LeO (culletref16_Params.j0 k y0 y1 y2 y3) (culletref16_Params.j0 (k + 1) y0 y1 y2 y3)) ∧ (∀ y0 y1 y2 y3, LeO (culletref16_Params.j1 k y0 y1 y2 y3) (culletref16_Params.j1 (k + 1) y0 y1 y2 y3))
  | 0 => ⟨fun _ _ _ _ r h => by simp [culletref16_Params.j0] at h, fun _ _ _ _ r h => by simp [culletref16_Params.j1] at h⟩
  | k + 1 => by
    obtain ⟨ih0, ih1⟩ := culletref16_Params.mono_l k
    refine ⟨?_, ?_⟩
    · intro y0 y1 y2 y3
      unfold culletref16_Params.j0
      repeat' first
      | (with_reducible exact ih0 _ _ _ _)
      | (with_reducible exact ih1 _ _ _ _)
      | (with_reducible exact culletref16_Pow2.mono _ _)
      | (with_reducible exact LeO.refl _)
      | (with_reducible exact LeO.none _)
      | (with_reducible refine LeO.ite ?_ ?_)
      | (with_reducible refine LeO.bind ?_ (fun _ => ?_))
      | exact ih0 _ _ _ _
      | exact ih1 _ _ _ _
      | exact culletref16_Pow2.mono _ _
      | exact LeO.none _
      | refine LeO.ite ?_ ?_
      | refine LeO.bind ?_ (fun _ => ?_)
    · intro y0 y1 y2 y3
      unfold culletref16_Params.j1
      repeat' first
      | (with_reducible exact ih0 _ _ _ _)
      | (with_reducible exact ih1 _ _ _ _)
      | (with_reducible exact culletref16_Pow2.mono _ _)
      | (with_reducible exact LeO.refl _)
      | (with_reducible exact LeO.none _)
      | (with_reducible refine LeO.ite ?_ ?_)
      | (with_reducible refine LeO.bind ?_ (fun _ => ?_))
      | exact ih0 _ _ _ _
      | exact ih1 _ _ _ _
      | exact culletref16_Pow2.mono _ _
      | exact LeO.none _
      | refine LeO.ite ?_ ?_
      | refine LeO.bind ?_ (fun _ => ?_)
theorem culletref16_Params.mono : ∀ a0 a1 a2 k, LeO (culletref16_Params.f k a0 a1 a2) (culletref16_Params.f (k + 1) a0 a1 a2) := by
  intro a0 a1 a2 k
  obtain ⟨ih0, ih1⟩ := culletref16_Params.mono_l k
  unfold culletref16_Params.f
  repeat' first
      | (with_reducible exact ih0 _ _ _ _)
      | (with_reducible exact ih1 _ _ _ _)
      | (with_reducible exact culletref16_Pow2.mono _ _)
      | (with_reducible exact LeO.refl _)
      | (with_reducible exact LeO.none _)
      | (with_reducible refine LeO.ite ?_ ?_)
      | (with_reducible refine LeO.bind ?_ (fun _ => ?_))
      | exact ih0 _ _ _ _
      | exact ih1 _ _ _ _
      | exact culletref16_Pow2.mono _ _
      | exact LeO.none _
      | refine LeO.ite ?_ ?_
      | refine LeO.bind ?_ (fun _ => ?_)
set_option maxHeartbeats 8000000 in
set_option maxRecDepth 100000 in
theorem culletref16_Params.calls (k : Nat) (a0 : Int) (a1 : Int) (a2 : Int) (r : Int) (w : World) (h : culletref16_Params.f k a0 a1 a2 = some r) :
    Calls Try.prog 20 #[.int .i64 a0, .int .i64 a1, .int .i64 a2] w fun e w' => e = .returned (.int .i64 r) ∧ Drawn0 w w' := by
  have H : (if a0 = 0 then (culletref16_Params.j0 k a0 a1 a2 false) else (if a0 = 1 then (culletref16_Params.j0 k a0 a1 a2 false) else (culletref16_Params.j0 k a0 a1 a2 (a0 != 2)))) = some r := h
  clear h
  have HC4 := Z0.mk H
  clear H
  go_enter Try.func20, Try.ntmps20
  go_upto_region 1 with (fail)
  go_cut [18] (fun v18 wc => ∃ (kq : Nat) (x18_3 : Bool), v18 = .bool x18_3 ∧ Z0 (culletref16_Params.j0 kq a0 a1 a2 x18_3 = some r) ∧ Z0 (kq ≤ k) ∧ Drawn0 w wc)
  case first =>
    have H := HC4.out
    clear HC4
    by_cases c5 : a0 = 0
    · rw [if_pos c5] at H
      have c5b0 : (a0 == 0) = true := beq_iff_eq.mpr c5
      have c5b1 : (a0 != 0) = false := bne_eq_false_iff_eq.mpr c5
      clear c5
      (first | rw [c5b0] | (simp only [i64_w, i32_w]; rw [c5b0]) | skip)
      have H' := Z0.mk H
      clear H
      go_wp2
      go_meet
      case rel => exact ⟨_, (false), (by first | rfl | (simp; done) | (simp [*]; done)), H', ⟨by first | omega | exact Nat.le_refl _⟩, by repeat (first | exact Drawn0.refl _ | apply Drawn0.step)⟩
    · rw [if_neg c5] at H
      have c5b0 : (a0 == 0) = false := beq_eq_false_iff_ne.mpr c5
      have c5b1 : (a0 != 0) = true := bne_iff_ne.mpr c5
      (first | rw [c5b0] | (simp only [i64_w, i32_w]; rw [c5b0]) | skip)
      by_cases c6 : a0 = 1
      · rw [if_pos c6] at H
        have c6b0 : (a0 == 1) = true := beq_iff_eq.mpr c6
        have c6b1 : (a0 != 1) = false := bne_eq_false_iff_eq.mpr c6
        clear c6
        have H' := Z0.mk H
        clear H
        go_wp2
        go_meet
        case rel => exact ⟨_, (false), (by first | rfl | (simp; done) | (simp [*]; done)), H', ⟨by first | omega | exact Nat.le_refl _⟩, by repeat (first | exact Drawn0.refl _ | apply Drawn0.step)⟩
      · rw [if_neg c6] at H
        have c6b0 : (a0 == 1) = false := beq_eq_false_iff_ne.mpr c6
        have c6b1 : (a0 != 1) = true := bne_iff_ne.mpr c6
        have H' := Z0.mk H
        clear H
        go_wp2
        go_meet
        case rel => exact ⟨_, ((a0 != 2)), (by first | rfl | (simp; done) | (simp [*]; done)), H', ⟨by first | omega | exact Nat.le_refl _⟩, by repeat (first | exact Drawn0.refl _ | apply Drawn0.step)⟩
  case rest =>
    clear HC4
    try clear c2
    try clear p2
    try clear c5
    try clear c5b0
    try clear c5b1
    try clear c6
    try clear c6b0
    try clear c6b1
    obtain ⟨kq, x18_3, rfl, HA, HJ3, ⟨mc3, rfl⟩⟩ := hcut
    cases kq with
    | zero => exact absurd HA.out (by simp [culletref16_Params.j0])
    | succ kj3 =>
      have H := HA.out
      clear HA
      simp only [culletref16_Params.j0] at H
      by_cases c7 : x18_3 = true
      · subst c7
        have H1 : (some 2) = some r := by rw [if_pos rfl] at H; exact H
        clear H
        have H := H1
        clear H1
        obtain rfl := Option.some.inj H
        go_wp2
        go_ret
        exact ⟨by first | rfl | (simp; done) | (simp [*]; done), by repeat (first | exact Drawn0.refl _ | apply Drawn0.step)⟩
      · replace c7 := Bool.eq_false_iff.mpr c7
        subst c7
        have H1 : (if a1 < 1 then (culletref16_Params.j1 kj3 a0 a1 a2 true) else (if a2 < 1 then (culletref16_Params.j1 kj3 a0 a1 a2 true) else (if a1 > 65536 then (culletref16_Params.j1 kj3 a0 a1 a2 true) else (culletref16_Params.j1 kj3 a0 a1 a2 (decide (a2 > 65536)))))) = some r := by rw [if_neg (show ¬ (false = true) by decide)] at H; exact H
        clear H
        have H := H1
        clear H1
        have HC8 := Z0.mk H
        clear H
        go_upto_region 3 with (fail)
        go_cut [32] (fun v32 wc => ∃ (kq : Nat) (x32_7 : Bool), v32 = .bool x32_7 ∧ Z0 (culletref16_Params.j1 kq a0 a1 a2 x32_7 = some r) ∧ Z0 (kq ≤ kj3) ∧ Drawn0 w wc)
        case first =>
          have H := HC8.out
          clear HC8
          by_cases c9 : a1 < 1
          · rw [if_pos c9] at H
            have c9b0 : decide (a1 < 1) = true := decide_eq_true c9
            clear c9
            (first | rw [c9b0] | (simp only [i64_w, i32_w]; rw [c9b0]) | skip)
            have H' := Z0.mk H
            clear H
            go_wp2
            go_meet
            case rel => exact ⟨_, (true), (by first | rfl | (simp; done) | (simp [*]; done)), H', ⟨by have := HJ3.out; first | omega | exact Nat.le_refl _⟩, by repeat (first | exact Drawn0.refl _ | apply Drawn0.step)⟩
          · rw [if_neg c9] at H
            have c9b0 : decide (a1 < 1) = false := decide_eq_false c9
            clear c9
            (first | rw [c9b0] | (simp only [i64_w, i32_w]; rw [c9b0]) | skip)
            by_cases c10 : a2 < 1
            · rw [if_pos c10] at H
              have c10b0 : decide (a2 < 1) = true := decide_eq_true c10
              clear c10
              have H' := Z0.mk H
              clear H
              go_wp2
              go_meet
              case rel => exact ⟨_, (true), (by first | rfl | (simp; done) | (simp [*]; done)), H', ⟨by have := HJ3.out; first | omega | exact Nat.le_refl _⟩, by repeat (first | exact Drawn0.refl _ | apply Drawn0.step)⟩
            · rw [if_neg c10] at H
              have c10b0 : decide (a2 < 1) = false := decide_eq_false c10
              clear c10
              by_cases c11 : a1 > 65536
              · rw [if_pos c11] at H
                have c11b0 : decide (65536 < a1) = true := decide_eq_true c11
                clear c11
                have H' := Z0.mk H
                clear H
                go_wp2
                go_meet
                case rel => exact ⟨_, (true), (by first | rfl | (simp; done) | (simp [*]; done)), H', ⟨by have := HJ3.out; first | omega | exact Nat.le_refl _⟩, by repeat (first | exact Drawn0.refl _ | apply Drawn0.step)⟩
              · rw [if_neg c11] at H
                have c11b0 : decide (65536 < a1) = false := decide_eq_false c11
                clear c11
                have H' := Z0.mk H
                clear H
                go_wp2
                go_meet
                case rel => exact ⟨_, (decide (a2 > 65536)), (by first | rfl | (simp; done) | (simp [*]; done)), H', ⟨by have := HJ3.out; first | omega | exact Nat.le_refl _⟩, by repeat (first | exact Drawn0.refl _ | apply Drawn0.step)⟩
        case rest =>
          clear HC8
          try clear c1
          try clear c2
          try clear p2
          try clear c3
          try clear c5
          try clear c5b0
          try clear c5b1
          try clear c6
          try clear c6b0
          try clear c6b1
          try clear c7
          try clear c9
          try clear c9b0
          try clear c10
          try clear c10b0
          try clear c11
          try clear c11b0
          try clear p2
          obtain ⟨kq, x32_7, rfl, HA, HJ7, ⟨mc7, rfl⟩⟩ := hcut
          cases kq with
          | zero => exact absurd HA.out (by simp [culletref16_Params.j1])
          | succ kj7 =>
            have H := HA.out
            clear HA
            simp only [culletref16_Params.j1] at H
            by_cases c12 : x32_7 = true
            · subst c12
              have H1 : (some 4) = some r := by rw [if_pos rfl] at H; exact H
              clear H
              have H := H1
              clear H1
              obtain rfl := Option.some.inj H
              go_wp2
              go_ret
              exact ⟨by first | rfl | (simp; done) | (simp [*]; done), by repeat (first | exact Drawn0.refl _ | apply Drawn0.step)⟩
            · replace c12 := Bool.eq_false_iff.mpr c12
              subst c12
              have H1 : (if a0 = 2 then ((culletref16_Pow2.f kj7 a2).bind fun bt151 => (if (wrap64 (bt151.1 + a1)) > 65536 then (some 4) else (some 0))) else (if (wrap64 (a1 + a2)) > 256 then (some 4) else (some 0))) = some r := by rw [if_neg (show ¬ (false = true) by decide)] at H; exact H
              clear H
              have H := H1
              clear H1
              by_cases c13 : a0 = 2
              · rw [if_pos c13] at H
                have c13b0 : (a0 == 2) = true := beq_iff_eq.mpr c13
                have c13b1 : (a0 != 2) = false := bne_eq_false_iff_eq.mpr c13
                clear c13
                replace H := Option.bind_eq_some_iff.mp H
                obtain ⟨⟨t151, t152⟩, A140, H⟩ := H
                dsimp only at H
                have A14 := Z0.mk A140
                clear A140
                by_cases c15 : (wrap64 (t151 + a1)) > 65536
                · rw [if_pos c15] at H
                  have c15b0 : decide (65536 < (wrap64 (t151 + a1))) = true := decide_eq_true c15
                  clear c15
                  obtain rfl := Option.some.inj H
                  go_wp2_with (first | ((with_reducible refine gate_callee (f := 35) rfl ?_); refine goesL_ (some 41) rfl rfl Try.func35 (by kernel_rfl) rfl #[.int .i64 a2] rfl (by (try simp only [List.map_toArray, List.map_cons, List.map_nil]); first | done | rfl | (simp only [List.length_drop, List.length_take]; rfl)) ?_; (with_reducible refine (culletref16_Pow2.calls kj7 a2 t151 t152 _ A14.out).mono ?_); rintro e w' ⟨rfl, ⟨nd, rfl⟩⟩; refine ⟨_, rfl, ?_⟩))
                  go_ret
                  exact ⟨by first | rfl | (simp; done) | (simp [*]; done), by repeat (first | exact Drawn0.refl _ | apply Drawn0.step)⟩
                · rw [if_neg c15] at H
                  have c15b0 : decide (65536 < (wrap64 (t151 + a1))) = false := decide_eq_false c15
                  clear c15
                  obtain rfl := Option.some.inj H
                  go_wp2_with (first | ((with_reducible refine gate_callee (f := 35) rfl ?_); refine goesL_ (some 41) rfl rfl Try.func35 (by kernel_rfl) rfl #[.int .i64 a2] rfl (by (try simp only [List.map_toArray, List.map_cons, List.map_nil]); first | done | rfl | (simp only [List.length_drop, List.length_take]; rfl)) ?_; (with_reducible refine (culletref16_Pow2.calls kj7 a2 t151 t152 _ A14.out).mono ?_); rintro e w' ⟨rfl, ⟨nd, rfl⟩⟩; refine ⟨_, rfl, ?_⟩))
                  go_ret
                  exact ⟨by first | rfl | (simp; done) | (simp [*]; done), by repeat (first | exact Drawn0.refl _ | apply Drawn0.step)⟩
              · rw [if_neg c13] at H
                have c13b0 : (a0 == 2) = false := beq_eq_false_iff_ne.mpr c13
                have c13b1 : (a0 != 2) = true := bne_iff_ne.mpr c13
                by_cases c16 : (wrap64 (a1 + a2)) > 256
                · rw [if_pos c16] at H
                  have c16b0 : decide (256 < (wrap64 (a1 + a2))) = true := decide_eq_true c16
                  clear c16
                  obtain rfl := Option.some.inj H
                  go_wp2
                  go_ret
                  exact ⟨by first | rfl | (simp; done) | (simp [*]; done), by repeat (first | exact Drawn0.refl _ | apply Drawn0.step)⟩
                · rw [if_neg c16] at H
                  have c16b0 : decide (256 < (wrap64 (a1 + a2))) = false := decide_eq_false c16
                  clear c16
                  obtain rfl := Option.some.inj H
                  go_wp2
                  go_ret
                  exact ⟨by first | rfl | (simp; done) | (simp [*]; done), by repeat (first | exact Drawn0.refl _ | apply Drawn0.step)⟩

end Go.Proofs.Ytcbjabnnokjnpaa.PA

namespace Go.Proofs.Ytcbjabnnokjnpaa.PA
open Go.RowKit Go.Proofs.YtcbjabnnokjnpaaW.PrintWords Go.Proofs.YtcbjabnnokjnpaaW.PrintLast Go.Proofs.YtcbjabnnokjnpaaW.PrintMore
attribute [local go_sem] max2_int min2_int max_two min_two max_three min_three max_four min_four   -- for this text's walks alone
set_option linter.unusedVariables false
set_option linter.unusedSimpArgs false

/-! ### culletref16_length: function 39 -/
def culletref16_length.f (a0 : Int) (a1 : Int) (a2 : Int) : Option (Int) := if a1 = 0 then (none) else (if (Int.tmod a2 a1) > 0 then (if a0 = 2 then (if (Int.tmod (wrap64 ((wrap64 (Int.tdiv a2 a1)) + 1)) 2) = 1 then (some (wrap64 ((wrap64 ((wrap64 (Int.tdiv a2 a1)) + 1)) + 1))) else (some (wrap64 ((wrap64 (Int.tdiv a2 a1)) + 1)))) else (some (wrap64 ((wrap64 (Int.tdiv a2 a1)) + 1)))) else (if a0 = 2 then (if (Int.tmod (wrap64 (Int.tdiv a2 a1)) 2) = 1 then (some (wrap64 ((wrap64 (Int.tdiv a2 a1)) + 1))) else (some (wrap64 (Int.tdiv a2 a1)))) else (some (wrap64 (Int.tdiv a2 a1)))))
set_option maxHeartbeats 8000000 in
set_option maxRecDepth 100000 in
theorem culletref16_length.calls (a0 : Int) (a1 : Int) (a2 : Int) (r : Int) (w : World) (h : culletref16_length.f a0 a1 a2 = some r) :
    Calls Try.prog 39 #[.int .i64 a0, .int .i64 a1, .int .i64 a2] w fun e w' => e = .returned (.int .i64 r) ∧ Drawn0 w w' := by
  have H : (if a1 = 0 then (none) else (if (Int.tmod a2 a1) > 0 then (if a0 = 2 then (if (Int.tmod (wrap64 ((wrap64 (Int.tdiv a2 a1)) + 1)) 2) = 1 then (some (wrap64 ((wrap64 ((wrap64 (Int.tdiv a2 a1)) + 1)) + 1))) else (some (wrap64 ((wrap64 (Int.tdiv a2 a1)) + 1)))) else (some (wrap64 ((wrap64 (Int.tdiv a2 a1)) + 1)))) else (if a0 = 2 then (if (Int.tmod (wrap64 (Int.tdiv a2 a1)) 2) = 1 then (some (wrap64 ((wrap64 (Int.tdiv a2 a1)) + 1))) else (some (wrap64 (Int.tdiv a2 a1)))) else (some (wrap64 (Int.tdiv a2 a1)))))) = some r := h
  clear h
  by_cases c4 : a1 = 0
  · rw [if_pos c4] at H
    exact absurd H (by simp)
  · rw [if_neg c4] at H
    have c4b0 : (a1 == 0) = false := beq_eq_false_iff_ne.mpr c4
    have c4b1 : (a1 != 0) = true := bne_iff_ne.mpr c4
    by_cases c5 : (Int.tmod a2 a1) > 0
    · rw [if_pos c5] at H
      have c5b0 : decide (0 < (Int.tmod a2 a1)) = true := decide_eq_true c5
      clear c5
      by_cases c6 : a0 = 2
      · rw [if_pos c6] at H
        have c6b0 : (a0 == 2) = true := beq_iff_eq.mpr c6
        have c6b1 : (a0 != 2) = false := bne_eq_false_iff_eq.mpr c6
        clear c6
        by_cases c7 : (Int.tmod (wrap64 ((wrap64 (Int.tdiv a2 a1)) + 1)) 2) = 1
        · rw [if_pos c7] at H
          have c7b0 : ((Int.tmod (wrap64 ((wrap64 (Int.tdiv a2 a1)) + 1)) 2) == 1) = true := beq_iff_eq.mpr c7
          have c7b1 : ((Int.tmod (wrap64 ((wrap64 (Int.tdiv a2 a1)) + 1)) 2) != 1) = false := bne_eq_false_iff_eq.mpr c7
          clear c7
          obtain rfl := Option.some.inj H
          go_enter Try.func39, Try.ntmps39
          go_wp2
          go_ret
          exact ⟨by first | rfl | (simp; done) | (simp [*]; done), by repeat (first | exact Drawn0.refl _ | apply Drawn0.step)⟩
        · rw [if_neg c7] at H
          have c7b0 : ((Int.tmod (wrap64 ((wrap64 (Int.tdiv a2 a1)) + 1)) 2) == 1) = false := beq_eq_false_iff_ne.mpr c7
          have c7b1 : ((Int.tmod (wrap64 ((wrap64 (Int.tdiv a2 a1)) + 1)) 2) != 1) = true := bne_iff_ne.mpr c7
          obtain rfl := Option.some.inj H
          go_enter Try.func39, Try.ntmps39
          go_wp2
          go_ret
          exact ⟨by first | rfl | (simp; done) | (simp [*]; done), by repeat (first | exact Drawn0.refl _ | apply Drawn0.step)⟩
      · rw [if_neg c6] at H
        have c6b0 : (a0 == 2) = false := beq_eq_false_iff_ne.mpr c6
        have c6b1 : (a0 != 2) = true := bne_iff_ne.mpr c6
        obtain rfl := Option.some.inj H
        go_enter Try.func39, Try.ntmps39
        go_wp2
        go_ret
        exact ⟨by first | rfl | (simp; done) | (simp [*]; done), by repeat (first | exact Drawn0.refl _ | apply Drawn0.step)⟩
    · rw [if_neg c5] at H
      have c5b0 : decide (0 < (Int.tmod a2 a1)) = false := decide_eq_false c5
      clear c5
      by_cases c8 : a0 = 2
      · rw [if_pos c8] at H
        have c8b0 : (a0 == 2) = true := beq_iff_eq.mpr c8
        have c8b1 : (a0 != 2) = false := bne_eq_false_iff_eq.mpr c8
        clear c8
        by_cases c9 : (Int.tmod (wrap64 (Int.tdiv a2 a1)) 2) = 1
        · rw [if_pos c9] at H
          have c9b0 : ((Int.tmod (wrap64 (Int.tdiv a2 a1)) 2) == 1) = true := beq_iff_eq.mpr c9
          have c9b1 : ((Int.tmod (wrap64 (Int.tdiv a2 a1)) 2) != 1) = false := bne_eq_false_iff_eq.mpr c9
          clear c9
          obtain rfl := Option.some.inj H
          go_enter Try.func39, Try.ntmps39
          go_wp2
          go_ret
          exact ⟨by first | rfl | (simp; done) | (simp [*]; done), by repeat (first | exact Drawn0.refl _ | apply Drawn0.step)⟩
        · rw [if_neg c9] at H
          have c9b0 : ((Int.tmod (wrap64 (Int.tdiv a2 a1)) 2) == 1) = false := beq_eq_false_iff_ne.mpr c9
          have c9b1 : ((Int.tmod (wrap64 (Int.tdiv a2 a1)) 2) != 1) = true := bne_iff_ne.mpr c9
          obtain rfl := Option.some.inj H
          go_enter Try.func39, Try.ntmps39
          go_wp2
          go_ret
          exact ⟨by first | rfl | (simp; done) | (simp [*]; done), by repeat (first | exact Drawn0.refl _ | apply Drawn0.step)⟩
      · rw [if_neg c8] at H
        have c8b0 : (a0 == 2) = false := beq_eq_false_iff_ne.mpr c8
        have c8b1 : (a0 != 2) = true := bne_iff_ne.mpr c8
        obtain rfl := Option.some.inj H
        go_enter Try.func39, Try.ntmps39
        go_wp2
        go_ret
        exact ⟨by first | rfl | (simp; done) | (simp [*]; done), by repeat (first | exact Drawn0.refl _ | apply Drawn0.step)⟩

/-! ### culletref16_Length: function 32 -/
def culletref16_Length.f (k : Nat) (a0 : Int) (a1 : Int) (a2 : Int) (a3 : Int) : Option (Int × Int) := (culletref16_Params.f k a0 a1 a2).bind fun t153 => (if t153 = 0 then (if a3 < 1 then (some (0, 163)) else (if a3 > 1099511627776 then (some (0, 5)) else ((culletref16_length.f a0 a1 a3).bind fun t154 => (some (t154, 0))))) else (some (0, t153)))
theorem culletref16_Length.mono : ∀ a0 a1 a2 a3 k, LeO (culletref16_Length.f k a0 a1 a2 a3) (culletref16_Length.f (k + 1) a0 a1 a2 a3) := by
  intro a0 a1 a2 a3 k
  unfold culletref16_Length.f
  repeat' first
      | (with_reducible exact culletref16_Params.mono _ _ _ _)
      | (with_reducible exact LeO.refl _)
      | (with_reducible exact LeO.none _)
      | (with_reducible refine LeO.ite ?_ ?_)
      | (with_reducible refine LeO.bind ?_ (fun _ => ?_))
      | exact culletref16_Params.mono _ _ _ _
      | exact LeO.none _
      | refine LeO.ite ?_ ?_
      | refine LeO.bind ?_ (fun _ => ?_)
set_option maxHeartbeats 8000000 in
set_option maxRecDepth 100000 in
theorem culletref16_Length.calls (k : Nat) (a0 : Int) (a1 : Int) (a2 : Int) (a3 : Int) (r1 : Int) (r2 : Int) (w : World) (h : culletref16_Length.f k a0 a1 a2 a3 = some (r1, r2)) :
    Calls Try.prog 32 #[.int .i64 a0, .int .i64 a1, .int .i64 a2, .int .i64 a3] w fun e w' => e = .returned (.tuple #[.int .i64 r1, .int .i64 r2]) ∧ Drawn0 w w' := by
  have H : ((culletref16_Params.f k a0 a1 a2).bind fun t153 => (if t153 = 0 then (if a3 < 1 then (some (0, 163)) else (if a3 > 1099511627776 then (some (0, 5)) else ((culletref16_length.f a0 a1 a3).bind fun t154 => (some (t154, 0))))) else (some (0, t153)))) = some (r1, r2) := h
  clear h
  replace H := Option.bind_eq_some_iff.mp H
  obtain ⟨t153, A50, H⟩ := H
  try dsimp only at H
  have A5 := Z0.mk A50
  clear A50
  by_cases c6 : t153 = 0
  · rw [if_pos c6] at H
    have c6b0 : (t153 == 0) = true := beq_iff_eq.mpr c6
    have c6b1 : (t153 != 0) = false := bne_eq_false_iff_eq.mpr c6
    clear c6
    by_cases c7 : a3 < 1
    · rw [if_pos c7] at H
      have c7b0 : decide (a3 < 1) = true := decide_eq_true c7
      clear c7
      simp only [Option.some.injEq, Prod.mk.injEq] at H
      obtain ⟨rfl, rfl⟩ := H
      go_enter Try.func32, Try.ntmps32
      go_wp2_with (first | ((with_reducible refine gate_callee (f := 20) rfl ?_); refine goesL_ (some 14) rfl rfl Try.func20 (by kernel_rfl) rfl #[.int .i64 a0, .int .i64 a1, .int .i64 a2] rfl (by (try simp only [List.map_toArray, List.map_cons, List.map_nil]); first | done | rfl | (simp only [List.length_drop, List.length_take]; rfl)) ?_; (with_reducible refine (culletref16_Params.calls k a0 a1 a2 t153 _ A5.out).mono ?_); rintro e w' ⟨rfl, ⟨nd, rfl⟩⟩; refine ⟨_, rfl, ?_⟩))
      go_ret2
      exact ⟨by first | rfl | (simp; done) | (simp [*]; done), by repeat (first | exact Drawn0.refl _ | apply Drawn0.step)⟩
    · rw [if_neg c7] at H
      have c7b0 : decide (a3 < 1) = false := decide_eq_false c7
      clear c7
      by_cases c8 : a3 > 1099511627776
      · rw [if_pos c8] at H
        have c8b0 : decide (1099511627776 < a3) = true := decide_eq_true c8
        clear c8
        simp only [Option.some.injEq, Prod.mk.injEq] at H
        obtain ⟨rfl, rfl⟩ := H
        go_enter Try.func32, Try.ntmps32
        go_wp2_with (first | ((with_reducible refine gate_callee (f := 20) rfl ?_); refine goesL_ (some 14) rfl rfl Try.func20 (by kernel_rfl) rfl #[.int .i64 a0, .int .i64 a1, .int .i64 a2] rfl (by (try simp only [List.map_toArray, List.map_cons, List.map_nil]); first | done | rfl | (simp only [List.length_drop, List.length_take]; rfl)) ?_; (with_reducible refine (culletref16_Params.calls k a0 a1 a2 t153 _ A5.out).mono ?_); rintro e w' ⟨rfl, ⟨nd, rfl⟩⟩; refine ⟨_, rfl, ?_⟩))
        go_ret2
        exact ⟨by first | rfl | (simp; done) | (simp [*]; done), by repeat (first | exact Drawn0.refl _ | apply Drawn0.step)⟩
      · rw [if_neg c8] at H
        have c8b0 : decide (1099511627776 < a3) = false := decide_eq_false c8
        clear c8
        replace H := Option.bind_eq_some_iff.mp H
        obtain ⟨t154, A90, H⟩ := H
        try dsimp only at H
        have A9 := Z0.mk A90
        clear A90
        simp only [Option.some.injEq, Prod.mk.injEq] at H
        obtain ⟨rfl, rfl⟩ := H
        go_enter Try.func32, Try.ntmps32
        go_wp2_with (first | ((with_reducible refine gate_callee (f := 20) rfl ?_); refine goesL_ (some 14) rfl rfl Try.func20 (by kernel_rfl) rfl #[.int .i64 a0, .int .i64 a1, .int .i64 a2] rfl (by (try simp only [List.map_toArray, List.map_cons, List.map_nil]); first | done | rfl | (simp only [List.length_drop, List.length_take]; rfl)) ?_; (with_reducible refine (culletref16_Params.calls k a0 a1 a2 t153 _ A5.out).mono ?_); rintro e w' ⟨rfl, ⟨nd, rfl⟩⟩; refine ⟨_, rfl, ?_⟩) | ((with_reducible refine gate_callee (f := 39) rfl ?_); refine goesL_ (some 25) rfl rfl Try.func39 (by kernel_rfl) rfl #[.int .i64 a0, .int .i64 a1, .int .i64 a3] rfl (by (try simp only [List.map_toArray, List.map_cons, List.map_nil]); first | done | rfl | (simp only [List.length_drop, List.length_take]; rfl)) ?_; (with_reducible refine (culletref16_length.calls a0 a1 a3 t154 _ A9.out).mono ?_); rintro e w' ⟨rfl, ⟨nd, rfl⟩⟩; refine ⟨_, rfl, ?_⟩))
        go_ret2
        exact ⟨by first | rfl | (simp; done) | (simp [*]; done), by repeat (first | exact Drawn0.refl _ | apply Drawn0.step)⟩
  · rw [if_neg c6] at H
    have c6b0 : (t153 == 0) = false := beq_eq_false_iff_ne.mpr c6
    have c6b1 : (t153 != 0) = true := bne_iff_ne.mpr c6
    simp only [Option.some.injEq, Prod.mk.injEq] at H
    obtain ⟨rfl, rfl⟩ := H
    go_enter Try.func32, Try.ntmps32
    go_wp2_with (first | ((with_reducible refine gate_callee (f := 20) rfl ?_); refine goesL_ (some 14) rfl rfl Try.func20 (by kernel_rfl) rfl #[.int .i64 a0, .int .i64 a1, .int .i64 a2] rfl (by (try simp only [List.map_toArray, List.map_cons, List.map_nil]); first | done | rfl | (simp only [List.length_drop, List.length_take]; rfl)) ?_; (with_reducible refine (culletref16_Params.calls k a0 a1 a2 t153 _ A5.out).mono ?_); rintro e w' ⟨rfl, ⟨nd, rfl⟩⟩; refine ⟨_, rfl, ?_⟩))
    go_ret2
    exact ⟨by first | rfl | (simp; done) | (simp [*]; done), by repeat (first | exact Drawn0.refl _ | apply Drawn0.step)⟩

end Go.Proofs.Ytcbjabnnokjnpaa.PA

namespace Go.Proofs.Ytcbjabnnokjnpaa.PA
open Go.RowKit Go.Proofs.YtcbjabnnokjnpaaW.PrintWords Go.Proofs.YtcbjabnnokjnpaaW.PrintLast Go.Proofs.YtcbjabnnokjnpaaW.PrintMore
attribute [local go_sem] max2_int min2_int max_two min_two max_three min_three max_four min_four   -- for this text's walks alone
set_option linter.unusedVariables false
set_option linter.unusedSimpArgs false

/-! ### culletlaw16_great: function 16 -/
def culletlaw16_great.f (k : Nat) (a0_0 : Int) (a0_1 : Int) (a0_2 : Int) (a0_3 : Int) (a0_4 : Int) (l0_5 : List (List Int)) (l0_6 : List (List Int)) (l0_7 : List Int) : Option (Bool) := if a0_0 = 9 then ((culletlaw16_heavy.f k l0_5).bind fun t156 => (some t156)) else ((culletref16_Length.f k a0_1 a0_2 a0_3 (l0_7.length : Int)).bind fun bt157 => (if bt157.2 = 0 then (if (wrap64 (a0_2 + a0_3)) = 0 then (none) else (if bt157.1 > (wrap64 (Int.tdiv (1048576 : Int) (wrap64 (a0_2 + a0_3)))) then (some (decide (bt157.1 ≤ (wrap64 (Int.tdiv (67108864 : Int) (wrap64 (a0_2 + a0_3))))))) else (some false))) else (some false)))
theorem culletlaw16_great.mono : ∀ a0 a1 a2 a3 a4 a5 a6 a7 k, LeO (culletlaw16_great.f k a0 a1 a2 a3 a4 a5 a6 a7) (culletlaw16_great.f (k + 1) a0 a1 a2 a3 a4 a5 a6 a7) := by
  intro a0 a1 a2 a3 a4 a5 a6 a7 k
  unfold culletlaw16_great.f
  repeat' first
      | (with_reducible exact culletlaw16_heavy.mono _ _)
      | (with_reducible exact culletref16_Length.mono _ _ _ _ _)
      | (with_reducible exact LeO.refl _)
      | (with_reducible exact LeO.none _)
      | (with_reducible refine LeO.ite ?_ ?_)
      | (with_reducible refine LeO.bind ?_ (fun _ => ?_))
      | exact culletlaw16_heavy.mono _ _
      | exact culletref16_Length.mono _ _ _ _ _
      | exact LeO.none _
      | refine LeO.ite ?_ ?_
      | refine LeO.bind ?_ (fun _ => ?_)
set_option maxHeartbeats 8000000 in
set_option maxRecDepth 100000 in
theorem culletlaw16_great.calls (k : Nat) (a0_0 : Int) (a0_1 : Int) (a0_2 : Int) (a0_3 : Int) (a0_4 : Int) (A0_5 : Option Addr) (c0_5 : Nat) (l0_5 : List (List Int)) (A0_6 : Option Addr) (c0_6 : Nat) (l0_6 : List (List Int)) (A0_7 : Option Addr) (c0_7 : Nat) (l0_7 : List Int) (r : Bool) (w : World) (hr0_5 : Kd.C (Kd.slice 5 (Kd.int .u8)) w A0_5 l0_5.length l0_5) (hc0_5 : l0_5.length ≤ c0_5) (hr0_6 : Kd.C (Kd.slice 5 (Kd.int .u8)) w A0_6 l0_6.length l0_6) (hc0_6 : l0_6.length ≤ c0_6) (hr0_7 : Kd.C (Kd.int .u8) w A0_7 l0_7.length l0_7) (hc0_7 : l0_7.length ≤ c0_7) (h : culletlaw16_great.f k a0_0 a0_1 a0_2 a0_3 a0_4 l0_5 l0_6 l0_7 = some r) :
    Calls Try.prog 16 #[.agg #[.int .i64 a0_0, .int .i64 a0_1, .int .i64 a0_2, .int .i64 a0_3, .int .i64 a0_4, .slice A0_5 l0_5.length c0_5, .slice A0_6 l0_6.length c0_6, .slice A0_7 l0_7.length c0_7]] w fun e w' => e = .returned (.bool r) ∧ Below w.heap.size w w' := by
  have hu38 := Try.underlying38
  have HR0_5 := Z0.mk hr0_5
  have HC0_5 := Z0.mk hc0_5
  clear hr0_5 hc0_5
  have HR0_6 := Z0.mk hr0_6
  have HC0_6 := Z0.mk hc0_6
  clear hr0_6 hc0_6
  have HR0_7 := Z0.mk hr0_7
  have HC0_7 := Z0.mk hc0_7
  clear hr0_7 hc0_7
  have HB := Z0.mk (Below.refl w.heap.size w)
  have H : (if a0_0 = 9 then ((culletlaw16_heavy.f k l0_5).bind fun t156 => (some t156)) else ((culletref16_Length.f k a0_1 a0_2 a0_3 (l0_7.length : Int)).bind fun bt157 => (if bt157.2 = 0 then (if (wrap64 (a0_2 + a0_3)) = 0 then (none) else (if bt157.1 > (wrap64 (Int.tdiv (1048576 : Int) (wrap64 (a0_2 + a0_3)))) then (some (decide (bt157.1 ≤ (wrap64 (Int.tdiv (67108864 : Int) (wrap64 (a0_2 + a0_3))))))) else (some false))) else (some false)))) = some r := h
  clear h
  by_cases c2 : a0_0 = 9
  · rw [if_pos c2] at H
    have c2b0 : (a0_0 == 9) = true := beq_iff_eq.mpr c2
    have c2b1 : (a0_0 != 9) = false := bne_eq_false_iff_eq.mpr c2
    clear c2
    replace H := Option.bind_eq_some_iff.mp H
    obtain ⟨t156, A30, H⟩ := H
    replace H : (some t156) = some r := H
    have A3 := Z0.mk A30
    clear A30
    obtain rfl := Option.some.inj H
    go_enter Try.func16, Try.ntmps16
    go_wp2_with (first | ((with_reducible refine gate_dst (N := 1) rfl ?_); refine box_event ?hg (N := 1) ?hd (cs := #[.int .i64 a0_0, .int .i64 a0_1, .int .i64 a0_2, .int .i64 a0_3, .int .i64 a0_4, .slice A0_5 l0_5.length c0_5, .slice A0_6 l0_6.length c0_6, .slice A0_7 l0_7.length c0_7]) (t := 38) ?hr ?_; (case hd => rfl); (case hg => rfl); (case hr => first | (go_simp; done) | (go_simp; rfl)); intro gb155 hg w4 hbox hb; have n0_ := Z0.mk (bwT (by repeat (first | (with_reducible first | exact HB.out | apply bwA | apply bwN | apply bw1) | exact HB.out)) hb); have n1_ := Z0.mk (hbox); have n2_ := Z0.mk ((by rw [hg]; exact (bwZ (by repeat (first | (with_reducible first | exact HB.out | apply bwA | apply bwN | apply bw1) | exact HB.out))) : w.heap.size ≤ gb155)); have n3_ := Z0.mk ((by rw [hg]; exact (bwZ (by repeat (first | (with_reducible first | exact HB.out | apply bwA | apply bwN | apply bw1) | exact HB.out))) : w.heap.size ≤ gb155)); clear HB; have HB := n0_; have BK155 := n1_; have GW155 := n2_; have GE155 := n3_; clear n0_ n1_ n2_ n3_; clear hb hbox hg; have hcz5_0 : w4.cell? ⟨gb155, 0, none⟩ = some (.int .i64 a0_0) := (bkC BK155.out 0).trans rfl; have hcz5_1 : w4.cell? ⟨gb155, 1, none⟩ = some (.int .i64 a0_1) := (bkC BK155.out 1).trans rfl; have hcz5_2 : w4.cell? ⟨gb155, 2, none⟩ = some (.int .i64 a0_2) := (bkC BK155.out 2).trans rfl; have hcz5_3 : w4.cell? ⟨gb155, 3, none⟩ = some (.int .i64 a0_3) := (bkC BK155.out 3).trans rfl; have hcz5_4 : w4.cell? ⟨gb155, 4, none⟩ = some (.int .i64 a0_4) := (bkC BK155.out 4).trans rfl; have hcz5_5 : w4.cell? ⟨gb155, 5, none⟩ = some (.slice A0_5 l0_5.length c0_5) := (bkC BK155.out 5).trans rfl; have hcz5_6 : w4.cell? ⟨gb155, 6, none⟩ = some (.slice A0_6 l0_6.length c0_6) := (bkC BK155.out 6).trans rfl; have hcz5_7 : w4.cell? ⟨gb155, 7, none⟩ = some (.slice A0_7 l0_7.length c0_7) := (bkC BK155.out 7).trans rfl; have hfz5_0 := bkF BK155.out 0; have hfz5_1 := bkF BK155.out 1; have hfz5_2 := bkF BK155.out 2; have hfz5_3 := bkF BK155.out 3; have hfz5_4 := bkF BK155.out 4; have hfz5_5 := bkF BK155.out 5; have hfz5_6 := bkF BK155.out 6; have hfz5_7 := bkF BK155.out 7) | ((with_reducible refine gate_callee (f := 31) rfl ?_); refine goesL_ (some 10) rfl rfl Try.func31 (by kernel_rfl) rfl #[.slice A0_5 l0_5.length c0_5] rfl (by (try simp only [List.map_toArray, List.map_cons, List.map_nil]); first | done | rfl | (simp only [List.length_drop, List.length_take]; rfl)) ?_; (with_reducible refine (culletlaw16_heavy.calls k _ _ l0_5 t156 _ ?side1 ?side2 A3.out).mono ?_); (case side1 => repeat (first | exact (Kd.C_below HR0_5.out HB.out) | (with_reducible refine Kd.C_alloc ?_ _) | (with_reducible refine Kd.C_drewN ?_ _) | (with_reducible refine Kd.C_drew ?_))); (case side2 => exact HC0_5.out); rintro e w' ⟨rfl, ⟨nd, rfl⟩⟩; refine ⟨_, rfl, ?_⟩))
    go_ret
    exact ⟨by first | rfl | (simp [ewN, ewS] <;> rfl) | (simp [*, ewN, ewS] <;> rfl), by repeat (first | (with_reducible first | exact HB.out | apply bwA | apply bwN | apply bw1 | refine bwS ?_ GE155.out) | exact HB.out)⟩
  · rw [if_neg c2] at H
    have c2b0 : (a0_0 == 9) = false := beq_eq_false_iff_ne.mpr c2
    have c2b1 : (a0_0 != 9) = true := bne_iff_ne.mpr c2
    replace H := Option.bind_eq_some_iff.mp H
    obtain ⟨⟨t157, t158⟩, A60, H⟩ := H
    dsimp only at H
    have A6 := Z0.mk A60
    clear A60
    by_cases c7 : t158 = 0
    · rw [if_pos c7] at H
      have c7b0 : (t158 == 0) = true := beq_iff_eq.mpr c7
      have c7b1 : (t158 != 0) = false := bne_eq_false_iff_eq.mpr c7
      clear c7
      by_cases c8 : (wrap64 (a0_2 + a0_3)) = 0
      · rw [if_pos c8] at H
        exact absurd H (by simp)
      · rw [if_neg c8] at H
        have c8b0 : ((wrap64 (a0_2 + a0_3)) == 0) = false := beq_eq_false_iff_ne.mpr c8
        have c8b1 : ((wrap64 (a0_2 + a0_3)) != 0) = true := bne_iff_ne.mpr c8
        by_cases c9 : t157 > (wrap64 (Int.tdiv (1048576 : Int) (wrap64 (a0_2 + a0_3))))
        · rw [if_pos c9] at H
          have c9b0 : decide ((wrap64 (Int.tdiv (1048576 : Int) (wrap64 (a0_2 + a0_3)))) < t157) = true := decide_eq_true c9
          clear c9
          obtain rfl := Option.some.inj H
          go_enter Try.func16, Try.ntmps16
          go_wp2_with (first | ((with_reducible refine gate_dst (N := 1) rfl ?_); refine box_event ?hg (N := 1) ?hd (cs := #[.int .i64 a0_0, .int .i64 a0_1, .int .i64 a0_2, .int .i64 a0_3, .int .i64 a0_4, .slice A0_5 l0_5.length c0_5, .slice A0_6 l0_6.length c0_6, .slice A0_7 l0_7.length c0_7]) (t := 38) ?hr ?_; (case hd => rfl); (case hg => rfl); (case hr => first | (go_simp; done) | (go_simp; rfl)); intro gb155 hg w10 hbox hb; have n0_ := Z0.mk (bwT (by repeat (first | (with_reducible first | exact HB.out | apply bwA | apply bwN | apply bw1) | exact HB.out)) hb); have n1_ := Z0.mk (hbox); have n2_ := Z0.mk ((by rw [hg]; exact (bwZ (by repeat (first | (with_reducible first | exact HB.out | apply bwA | apply bwN | apply bw1) | exact HB.out))) : w.heap.size ≤ gb155)); have n3_ := Z0.mk ((by rw [hg]; exact (bwZ (by repeat (first | (with_reducible first | exact HB.out | apply bwA | apply bwN | apply bw1) | exact HB.out))) : w.heap.size ≤ gb155)); clear HB; have HB := n0_; have BK155 := n1_; have GW155 := n2_; have GE155 := n3_; clear n0_ n1_ n2_ n3_; clear hb hbox hg; have hcz11_0 : w10.cell? ⟨gb155, 0, none⟩ = some (.int .i64 a0_0) := (bkC BK155.out 0).trans rfl; have hcz11_1 : w10.cell? ⟨gb155, 1, none⟩ = some (.int .i64 a0_1) := (bkC BK155.out 1).trans rfl; have hcz11_2 : w10.cell? ⟨gb155, 2, none⟩ = some (.int .i64 a0_2) := (bkC BK155.out 2).trans rfl; have hcz11_3 : w10.cell? ⟨gb155, 3, none⟩ = some (.int .i64 a0_3) := (bkC BK155.out 3).trans rfl; have hcz11_4 : w10.cell? ⟨gb155, 4, none⟩ = some (.int .i64 a0_4) := (bkC BK155.out 4).trans rfl; have hcz11_5 : w10.cell? ⟨gb155, 5, none⟩ = some (.slice A0_5 l0_5.length c0_5) := (bkC BK155.out 5).trans rfl; have hcz11_6 : w10.cell? ⟨gb155, 6, none⟩ = some (.slice A0_6 l0_6.length c0_6) := (bkC BK155.out 6).trans rfl; have hcz11_7 : w10.cell? ⟨gb155, 7, none⟩ = some (.slice A0_7 l0_7.length c0_7) := (bkC BK155.out 7).trans rfl; have hfz11_0 := bkF BK155.out 0; have hfz11_1 := bkF BK155.out 1; have hfz11_2 := bkF BK155.out 2; have hfz11_3 := bkF BK155.out 3; have hfz11_4 := bkF BK155.out 4; have hfz11_5 := bkF BK155.out 5; have hfz11_6 := bkF BK155.out 6; have hfz11_7 := bkF BK155.out 7) | ((with_reducible refine gate_callee (f := 32) rfl ?_); refine goesL_ (some 21) rfl rfl Try.func32 (by kernel_rfl) rfl #[.int .i64 a0_1, .int .i64 a0_2, .int .i64 a0_3, .int .i64 (l0_7.length : Int)] rfl (by (try simp only [List.map_toArray, List.map_cons, List.map_nil]); first | done | rfl | (simp only [List.length_drop, List.length_take]; rfl)) ?_; (with_reducible refine (culletref16_Length.calls k a0_1 a0_2 a0_3 (l0_7.length : Int) t157 t158 _ A6.out).mono ?_); rintro e w' ⟨rfl, ⟨nd, rfl⟩⟩; refine ⟨_, rfl, ?_⟩))
          go_ret
          exact ⟨by first | rfl | (simp [ewN, ewS] <;> rfl) | (simp [*, ewN, ewS] <;> rfl), by repeat (first | (with_reducible first | exact HB.out | apply bwA | apply bwN | apply bw1 | refine bwS ?_ GE155.out) | exact HB.out)⟩
        · rw [if_neg c9] at H
          have c9b0 : decide ((wrap64 (Int.tdiv (1048576 : Int) (wrap64 (a0_2 + a0_3)))) < t157) = false := decide_eq_false c9
          clear c9
          obtain rfl := Option.some.inj H
          go_enter Try.func16, Try.ntmps16
          go_wp2_with (first | ((with_reducible refine gate_dst (N := 1) rfl ?_); refine box_event ?hg (N := 1) ?hd (cs := #[.int .i64 a0_0, .int .i64 a0_1, .int .i64 a0_2, .int .i64 a0_3, .int .i64 a0_4, .slice A0_5 l0_5.length c0_5, .slice A0_6 l0_6.length c0_6, .slice A0_7 l0_7.length c0_7]) (t := 38) ?hr ?_; (case hd => rfl); (case hg => rfl); (case hr => first | (go_simp; done) | (go_simp; rfl)); intro gb155 hg w12 hbox hb; have n0_ := Z0.mk (bwT (by repeat (first | (with_reducible first | exact HB.out | apply bwA | apply bwN | apply bw1) | exact HB.out)) hb); have n1_ := Z0.mk (hbox); have n2_ := Z0.mk ((by rw [hg]; exact (bwZ (by repeat (first | (with_reducible first | exact HB.out | apply bwA | apply bwN | apply bw1) | exact HB.out))) : w.heap.size ≤ gb155)); have n3_ := Z0.mk ((by rw [hg]; exact (bwZ (by repeat (first | (with_reducible first | exact HB.out | apply bwA | apply bwN | apply bw1) | exact HB.out))) : w.heap.size ≤ gb155)); clear HB; have HB := n0_; have BK155 := n1_; have GW155 := n2_; have GE155 := n3_; clear n0_ n1_ n2_ n3_; clear hb hbox hg; have hcz13_0 : w12.cell? ⟨gb155, 0, none⟩ = some (.int .i64 a0_0) := (bkC BK155.out 0).trans rfl; have hcz13_1 : w12.cell? ⟨gb155, 1, none⟩ = some (.int .i64 a0_1) := (bkC BK155.out 1).trans rfl; have hcz13_2 : w12.cell? ⟨gb155, 2, none⟩ = some (.int .i64 a0_2) := (bkC BK155.out 2).trans rfl; have hcz13_3 : w12.cell? ⟨gb155, 3, none⟩ = some (.int .i64 a0_3) := (bkC BK155.out 3).trans rfl; have hcz13_4 : w12.cell? ⟨gb155, 4, none⟩ = some (.int .i64 a0_4) := (bkC BK155.out 4).trans rfl; have hcz13_5 : w12.cell? ⟨gb155, 5, none⟩ = some (.slice A0_5 l0_5.length c0_5) := (bkC BK155.out 5).trans rfl; have hcz13_6 : w12.cell? ⟨gb155, 6, none⟩ = some (.slice A0_6 l0_6.length c0_6) := (bkC BK155.out 6).trans rfl; have hcz13_7 : w12.cell? ⟨gb155, 7, none⟩ = some (.slice A0_7 l0_7.length c0_7) := (bkC BK155.out 7).trans rfl; have hfz13_0 := bkF BK155.out 0; have hfz13_1 := bkF BK155.out 1; have hfz13_2 := bkF BK155.out 2; have hfz13_3 := bkF BK155.out 3; have hfz13_4 := bkF BK155.out 4; have hfz13_5 := bkF BK155.out 5; have hfz13_6 := bkF BK155.out 6; have hfz13_7 := bkF BK155.out 7) | ((with_reducible refine gate_callee (f := 32) rfl ?_); refine goesL_ (some 21) rfl rfl Try.func32 (by kernel_rfl) rfl #[.int .i64 a0_1, .int .i64 a0_2, .int .i64 a0_3, .int .i64 (l0_7.length : Int)] rfl (by (try simp only [List.map_toArray, List.map_cons, List.map_nil]); first | done | rfl | (simp only [List.length_drop, List.length_take]; rfl)) ?_; (with_reducible refine (culletref16_Length.calls k a0_1 a0_2 a0_3 (l0_7.length : Int) t157 t158 _ A6.out).mono ?_); rintro e w' ⟨rfl, ⟨nd, rfl⟩⟩; refine ⟨_, rfl, ?_⟩))
          go_ret
          exact ⟨by first | rfl | (simp [ewN, ewS] <;> rfl) | (simp [*, ewN, ewS] <;> rfl), by repeat (first | (with_reducible first | exact HB.out | apply bwA | apply bwN | apply bw1 | refine bwS ?_ GE155.out) | exact HB.out)⟩
    · rw [if_neg c7] at H
      have c7b0 : (t158 == 0) = false := beq_eq_false_iff_ne.mpr c7
      have c7b1 : (t158 != 0) = true := bne_iff_ne.mpr c7
      obtain rfl := Option.some.inj H
      go_enter Try.func16, Try.ntmps16
      go_wp2_with (first | ((with_reducible refine gate_dst (N := 1) rfl ?_); refine box_event ?hg (N := 1) ?hd (cs := #[.int .i64 a0_0, .int .i64 a0_1, .int .i64 a0_2, .int .i64 a0_3, .int .i64 a0_4, .slice A0_5 l0_5.length c0_5, .slice A0_6 l0_6.length c0_6, .slice A0_7 l0_7.length c0_7]) (t := 38) ?hr ?_; (case hd => rfl); (case hg => rfl); (case hr => first | (go_simp; done) | (go_simp; rfl)); intro gb155 hg w14 hbox hb; have n0_ := Z0.mk (bwT (by repeat (first | (with_reducible first | exact HB.out | apply bwA | apply bwN | apply bw1) | exact HB.out)) hb); have n1_ := Z0.mk (hbox); have n2_ := Z0.mk ((by rw [hg]; exact (bwZ (by repeat (first | (with_reducible first | exact HB.out | apply bwA | apply bwN | apply bw1) | exact HB.out))) : w.heap.size ≤ gb155)); have n3_ := Z0.mk ((by rw [hg]; exact (bwZ (by repeat (first | (with_reducible first | exact HB.out | apply bwA | apply bwN | apply bw1) | exact HB.out))) : w.heap.size ≤ gb155)); clear HB; have HB := n0_; have BK155 := n1_; have GW155 := n2_; have GE155 := n3_; clear n0_ n1_ n2_ n3_; clear hb hbox hg; have hcz15_0 : w14.cell? ⟨gb155, 0, none⟩ = some (.int .i64 a0_0) := (bkC BK155.out 0).trans rfl; have hcz15_1 : w14.cell? ⟨gb155, 1, none⟩ = some (.int .i64 a0_1) := (bkC BK155.out 1).trans rfl; have hcz15_2 : w14.cell? ⟨gb155, 2, none⟩ = some (.int .i64 a0_2) := (bkC BK155.out 2).trans rfl; have hcz15_3 : w14.cell? ⟨gb155, 3, none⟩ = some (.int .i64 a0_3) := (bkC BK155.out 3).trans rfl; have hcz15_4 : w14.cell? ⟨gb155, 4, none⟩ = some (.int .i64 a0_4) := (bkC BK155.out 4).trans rfl; have hcz15_5 : w14.cell? ⟨gb155, 5, none⟩ = some (.slice A0_5 l0_5.length c0_5) := (bkC BK155.out 5).trans rfl; have hcz15_6 : w14.cell? ⟨gb155, 6, none⟩ = some (.slice A0_6 l0_6.length c0_6) := (bkC BK155.out 6).trans rfl; have hcz15_7 : w14.cell? ⟨gb155, 7, none⟩ = some (.slice A0_7 l0_7.length c0_7) := (bkC BK155.out 7).trans rfl; have hfz15_0 := bkF BK155.out 0; have hfz15_1 := bkF BK155.out 1; have hfz15_2 := bkF BK155.out 2; have hfz15_3 := bkF BK155.out 3; have hfz15_4 := bkF BK155.out 4; have hfz15_5 := bkF BK155.out 5; have hfz15_6 := bkF BK155.out 6; have hfz15_7 := bkF BK155.out 7) | ((with_reducible refine gate_callee (f := 32) rfl ?_); refine goesL_ (some 21) rfl rfl Try.func32 (by kernel_rfl) rfl #[.int .i64 a0_1, .int .i64 a0_2, .int .i64 a0_3, .int .i64 (l0_7.length : Int)] rfl (by (try simp only [List.map_toArray, List.map_cons, List.map_nil]); first | done | rfl | (simp only [List.length_drop, List.length_take]; rfl)) ?_; (with_reducible refine (culletref16_Length.calls k a0_1 a0_2 a0_3 (l0_7.length : Int) t157 t158 _ A6.out).mono ?_); rintro e w' ⟨rfl, ⟨nd, rfl⟩⟩; refine ⟨_, rfl, ?_⟩))
      go_ret
      exact ⟨by first | rfl | (simp [ewN, ewS] <;> rfl) | (simp [*, ewN, ewS] <;> rfl), by repeat (first | (with_reducible first | exact HB.out | apply bwA | apply bwN | apply bw1 | refine bwS ?_ GE155.out) | exact HB.out)⟩

/-! ### shape_counted: function 33 -/
def shape_counted.f (k : Nat) (a0 : Int) (a1 : Int) (a2 : Int) (l3 : List (List Int)) : Option (Int) := (shape_Params.f k a0 a1 a2).bind fun t159 => (if t159 = 0 then (if (l3.length : Int) = (wrap64 (a1 + a2)) then (some 0) else (some 160)) else (some t159))
theorem shape_counted.mono : ∀ a0 a1 a2 a3 k, LeO (shape_counted.f k a0 a1 a2 a3) (shape_counted.f (k + 1) a0 a1 a2 a3) := by
  intro a0 a1 a2 a3 k
  unfold shape_counted.f
  repeat' first
      | (with_reducible exact shape_Params.mono _ _ _ _)
      | (with_reducible exact LeO.refl _)
      | (with_reducible exact LeO.none _)
      | (with_reducible refine LeO.ite ?_ ?_)
      | (with_reducible refine LeO.bind ?_ (fun _ => ?_))
      | exact shape_Params.mono _ _ _ _
      | exact LeO.none _
      | refine LeO.ite ?_ ?_
      | refine LeO.bind ?_ (fun _ => ?_)
set_option maxHeartbeats 8000000 in
set_option maxRecDepth 100000 in
theorem shape_counted.calls (k : Nat) (a0 : Int) (a1 : Int) (a2 : Int) (A3 : Option Addr) (c3 : Nat) (l3 : List (List Int)) (r : Int) (w : World) (hr3 : Kd.C (Kd.slice 5 (Kd.int .u8)) w A3 l3.length l3) (hc3 : l3.length ≤ c3) (h : shape_counted.f k a0 a1 a2 l3 = some r) :
    Calls Try.prog 33 #[.int .i64 a0, .int .i64 a1, .int .i64 a2, .slice A3 l3.length c3] w fun e w' => e = .returned (.int .i64 r) ∧ Drawn0 w w' := by
  have HR3 := Z0.mk hr3
  have HC3 := Z0.mk hc3
  clear hr3 hc3
  have H : ((shape_Params.f k a0 a1 a2).bind fun t159 => (if t159 = 0 then (if (l3.length : Int) = (wrap64 (a1 + a2)) then (some 0) else (some 160)) else (some t159))) = some r := h
  clear h
  replace H := Option.bind_eq_some_iff.mp H
  obtain ⟨t159, A50, H⟩ := H
  try dsimp only at H
  have A5 := Z0.mk A50
  clear A50
  by_cases c6 : t159 = 0
  · rw [if_pos c6] at H
    have c6b0 : (t159 == 0) = true := beq_iff_eq.mpr c6
    have c6b1 : (t159 != 0) = false := bne_eq_false_iff_eq.mpr c6
    clear c6
    by_cases c7 : (l3.length : Int) = (wrap64 (a1 + a2))
    · rw [if_pos c7] at H
      have c7b0 : ((l3.length : Int) == (wrap64 (a1 + a2))) = true := beq_iff_eq.mpr c7
      have c7b1 : ((l3.length : Int) != (wrap64 (a1 + a2))) = false := bne_eq_false_iff_eq.mpr c7
      clear c7
      obtain rfl := Option.some.inj H
      go_enter Try.func33, Try.ntmps33
      go_wp2_with (first | ((with_reducible refine gate_callee (f := 14) rfl ?_); refine goesL_ (some 13) rfl rfl Try.func14 (by kernel_rfl) rfl #[.int .i64 a0, .int .i64 a1, .int .i64 a2] rfl (by (try simp only [List.map_toArray, List.map_cons, List.map_nil]); first | done | rfl | (simp only [List.length_drop, List.length_take]; rfl)) ?_; (with_reducible refine (shape_Params.calls k a0 a1 a2 t159 _ A5.out).mono ?_); rintro e w' ⟨rfl, ⟨nd, rfl⟩⟩; refine ⟨_, rfl, ?_⟩))
      go_ret
      exact ⟨by first | rfl | (simp; done) | (simp [*]; done), by repeat (first | exact Drawn0.refl _ | apply Drawn0.step)⟩
    · rw [if_neg c7] at H
      have c7b0 : ((l3.length : Int) == (wrap64 (a1 + a2))) = false := beq_eq_false_iff_ne.mpr c7
      have c7b1 : ((l3.length : Int) != (wrap64 (a1 + a2))) = true := bne_iff_ne.mpr c7
      obtain rfl := Option.some.inj H
      go_enter Try.func33, Try.ntmps33
      go_wp2_with (first | ((with_reducible refine gate_callee (f := 14) rfl ?_); refine goesL_ (some 13) rfl rfl Try.func14 (by kernel_rfl) rfl #[.int .i64 a0, .int .i64 a1, .int .i64 a2] rfl (by (try simp only [List.map_toArray, List.map_cons, List.map_nil]); first | done | rfl | (simp only [List.length_drop, List.length_take]; rfl)) ?_; (with_reducible refine (shape_Params.calls k a0 a1 a2 t159 _ A5.out).mono ?_); rintro e w' ⟨rfl, ⟨nd, rfl⟩⟩; refine ⟨_, rfl, ?_⟩))
      go_ret
      exact ⟨by first | rfl | (simp; done) | (simp [*]; done), by repeat (first | exact Drawn0.refl _ | apply Drawn0.step)⟩
  · rw [if_neg c6] at H
    have c6b0 : (t159 == 0) = false := beq_eq_false_iff_ne.mpr c6
    have c6b1 : (t159 != 0) = true := bne_iff_ne.mpr c6
    obtain rfl := Option.some.inj H
    go_enter Try.func33, Try.ntmps33
    go_wp2_with (first | ((with_reducible refine gate_callee (f := 14) rfl ?_); refine goesL_ (some 13) rfl rfl Try.func14 (by kernel_rfl) rfl #[.int .i64 a0, .int .i64 a1, .int .i64 a2] rfl (by (try simp only [List.map_toArray, List.map_cons, List.map_nil]); first | done | rfl | (simp only [List.length_drop, List.length_take]; rfl)) ?_; (with_reducible refine (shape_Params.calls k a0 a1 a2 t159 _ A5.out).mono ?_); rintro e w' ⟨rfl, ⟨nd, rfl⟩⟩; refine ⟨_, rfl, ?_⟩))
    go_ret
    exact ⟨by first | rfl | (simp; done) | (simp [*]; done), by repeat (first | exact Drawn0.refl _ | apply Drawn0.step)⟩

end Go.Proofs.Ytcbjabnnokjnpaa.PA

namespace Go.Proofs.Ytcbjabnnokjnpaa.PA
open Go.RowKit Go.Proofs.YtcbjabnnokjnpaaW.PrintWords Go.Proofs.YtcbjabnnokjnpaaW.PrintLast Go.Proofs.YtcbjabnnokjnpaaW.PrintMore
attribute [local go_sem] max2_int min2_int max_two min_two max_three min_three max_four min_four   -- for this text's walks alone
set_option linter.unusedVariables false
set_option linter.unusedSimpArgs false

/-! ### shape_lengths: function 34 -/
def shape_lengths.l0 : Nat → Int → List Int → Bool → List (List Int) → Int → Int → Option (Int × List Int × Bool)
  | 0, _, _, _, _, _, _ => none
  | k + 1, x2, x3, x4, x7, x8, x9 => if x9 < x8 then (if 0 ≤ x9 then (if x9 < (x7.length : Int) then (if ((rd_L2 x7 x9).length : Int) = 0 then (if x3.length < 17592186044416 then (shape_lengths.l0 k x2 (x3 ++ [x9]) x4 x7 x8 (wrap64 (x9 + 1))) else (none)) else (if x2 = 0 then (shape_lengths.l0 k ((rd_L2 x7 x9).length : Int) x3 x4 x7 x8 (wrap64 (x9 + 1))) else (if x2 = ((rd_L2 x7 x9).length : Int) then (shape_lengths.l0 k x2 x3 x4 x7 x8 (wrap64 (x9 + 1))) else (shape_lengths.l0 k x2 x3 false x7 x8 (wrap64 (x9 + 1)))))) else (none)) else (none)) else (some (x2, x3, x4))
def shape_lengths.f (k : Nat) (l0 : List (List Int)) : Option (Int × List Int × Bool) := shape_lengths.l0 k 0 ([] : List Int) true l0 (l0.length : Int) 0
theorem shape_lengths.mono_l : ∀ k, (∀ y0 y1 y2 y3 y4 y5, LeO (shape_lengths.l0 k y0 y1 y2 y3 y4 y5) (shape_lengths.l0 (k + 1) y0 y1 y2 y3 y4 y5))
  | 0 => fun _ _ _ _ _ _ r h => by simp [shape_lengths.l0] at h
  | k + 1 => by
    have ih0 := shape_lengths.mono_l k
    · intro y0 y1 y2 y3 y4 y5
      unfold shape_lengths.l0
      repeat' first
      | (with_reducible exact ih0 _ _ _ _ _ _)
      | (with_reducible exact LeO.refl _)
      | (with_reducible exact LeO.none _)
      | (with_reducible refine LeO.ite ?_ ?_)
      | (with_reducible refine LeO.bind ?_ (fun _ => ?_))
      | exact ih0 _ _ _ _ _ _
      | exact LeO.none _
      | refine LeO.ite ?_ ?_
      | refine LeO.bind ?_ (fun _ => ?_)
theorem shape_lengths.mono : ∀ a0 k, LeO (shape_lengths.f k a0) (shape_lengths.f (k + 1) a0) := by
  intro a0 k
  have ih0 := shape_lengths.mono_l k
  unfold shape_lengths.f
  repeat' first
      | (with_reducible exact ih0 _ _ _ _ _ _)
      | (with_reducible exact LeO.refl _)
      | (with_reducible exact LeO.none _)
      | (with_reducible refine LeO.ite ?_ ?_)
      | (with_reducible refine LeO.bind ?_ (fun _ => ?_))
      | exact ih0 _ _ _ _ _ _
      | exact LeO.none _
      | refine LeO.ite ?_ ?_
      | refine LeO.bind ?_ (fun _ => ?_)
set_option maxHeartbeats 8000000 in
set_option maxRecDepth 100000 in
theorem shape_lengths.calls (k : Nat) (A0 : Option Addr) (c0 : Nat) (l0 : List (List Int)) (r1 : Int) (r2 : List Int) (r3 : Bool) (w : World) (hr0 : Kd.C (Kd.slice 5 (Kd.int .u8)) w A0 l0.length l0) (hc0 : l0.length ≤ c0) (h : shape_lengths.f k l0 = some (r1, r2, r3)) :
    Calls Try.prog 34 #[.slice A0 l0.length c0] w fun e w' => ∃ v1_ : Value, e = .returned (.tuple #[.int .i64 r1, v1_, .bool r3]) ∧ Kd.R (Kd.int .i64) 3 w' w.heap.size (fun _ => True) v1_ r2 ∧ Below w.heap.size w w' := by
  have HR0 := Z0.mk hr0
  have HC0 := Z0.mk hc0
  clear hr0 hc0
  have HB := Z0.mk (Below.refl w.heap.size w)
  have H : (shape_lengths.l0 k 0 ([] : List Int) true l0 (l0.length : Int) 0) = some (r1, r2, r3) := h
  clear h
  have H' := Z0.mk H
  clear H
  go_enter Try.func34, Try.ntmps34
  go_wp2
  go_loopg [2, 3, 4, 9] k (fun kq v2 v3 v4 v9 w' => ∃ (x2_1 : Int) (x3_1 : List Int) (x4_1 : Bool) (x9_1 : Int), v2 = .int .i64 x2_1 ∧ v4 = .bool x4_1 ∧ v9 = .int .i64 x9_1 ∧ Z0 (shape_lengths.l0 kq x2_1 x3_1 x4_1 l0 (l0.length : Int) x9_1 = some (r1, r2, r3)) ∧ Z0 (kq ≤ k) ∧ Z0 (Kd.R (Kd.int .i64) 3 w' w.heap.size (fun _ => True) v3 x3_1) ∧ Z0 (Below w.heap.size w w'))
  case atStart => exact ⟨(0), (([] : List Int)), (true), (0), (by first | rfl | (simp; done) | (simp [*]; done)), (by first | rfl | (simp; done) | (simp [*]; done)), (by first | rfl | (simp; done) | (simp [*]; done)), H', ⟨Nat.le_refl _⟩, ⟨by first | exact Kd.R_nil _ _ _ _ _ | exact Kd.N_nil _ _ _ _ _ | exact Kd.V_nil _ _ _ _ _ | exact Kd.Q_nil _ _ _ _ _ | exact Kd.S_nil _ _ _ _ _⟩, ⟨by repeat (first | (with_reducible first | exact HB.out | apply bwA | apply bwN | apply bw1) | exact HB.out)⟩⟩
  case round =>
    clear H'
    obtain ⟨x2_1, x3_1, x4_1, x9_1, rfl, rfl, rfl, HA, HK1, HO_3, HB⟩ := hrel
    cases gk with
    | zero => exact absurd HA.out (by simp [shape_lengths.l0])
    | succ k1 =>
      have H := HA.out
      clear HA
      simp only [shape_lengths.l0] at H
      by_cases c2 : x9_1 < (l0.length : Int)
      · rw [if_pos c2] at H
        have c2b0 : decide (x9_1 < (l0.length : Int)) = true := decide_eq_true c2
        clear c2
        by_cases c3 : 0 ≤ x9_1
        · rw [if_pos c3] at H
          have c3b0 : decide (0 ≤ x9_1) = true := decide_eq_true c3
          clear c3
          by_cases c4 : x9_1 < (l0.length : Int)
          · rw [if_pos c4] at H
            have c4b0 : decide (x9_1 < (l0.length : Int)) = true := decide_eq_true c4
            clear c4
            by_cases c5 : ((rd_L2 l0 x9_1).length : Int) = 0
            · rw [if_pos c5] at H
              have c5b0 : (((rd_L2 l0 x9_1).length : Int) == 0) = true := beq_iff_eq.mpr c5
              have c5b1 : (((rd_L2 l0 x9_1).length : Int) != 0) = false := bne_eq_false_iff_eq.mpr c5
              clear c5
              by_cases c6 : x3_1.length < 17592186044416
              · rw [if_pos c6] at H
                have LMc6 := Z0.mk c6
                clear c6
                obtain ⟨y161, hy161⟩ : ∃ y_ : List Int, y_ = (x3_1 ++ [x9_1]) := ⟨_, rfl⟩
                replace H : (shape_lengths.l0 k1 x2_1 y161 x4_1 l0 (l0.length : Int) (wrap64 (x9_1 + 1))) = some (r1, r2, r3) := by first | (rw [hy161]; with_reducible exact H) | (have H2_ := (Option.bind_some _ _).symm.trans H; rw [hy161]; with_reducible exact H2_) | (have H2_ := (Option.bind_some _ _).symm.trans H; with_reducible exact H2_) | with_reducible exact H | (rw [hy161]; exact H) | exact H
                have Ny161 := Z0.mk hy161
                clear hy161
                have H' := Z0.mk H
                clear H
                have p160 : 0 ≤ (x9_1 : Int) := of_decide_eq_true (by first | (with_reducible assumption) | assumption)
                have q160 : x9_1 < (l0.length : Int) := of_decide_eq_true (by first | (with_reducible assumption) | assumption)
                obtain ⟨ad160, A160_0, c160_0, e160, hx160_0, hl160_0, hi160_0⟩ := at_L2 HR0.out x9_1 p160 q160
                cases e160
                replace hx160_0 := (HB.out.cell (World.block_lt_of_cell? w _ hx160_0)).trans hx160_0
                have HR160_0 := Z0.mk hi160_0
                have HC160_0 := Z0.mk hl160_0
                clear hi160_0 hl160_0
                replace p160 := eq_true p160
                replace q160 := eq_true q160
                go_wp2_with (first | ((with_reducible refine gate_builtin (b := .append) (xs := #[.tmp 18, .tmp 20]) rfl ?_); at_builtin; refine Kd.R_append (Kd.int .i64) (w0 := w) w.heap.size rfl (.tmp 18) (.tmp 20) 49 3 (.int .i64 0) 8 rfl Try.underlying49 info3 rfl (by decide) (by omega) u3 x3_1 x9_1 [.int .i64 x9_1] (fun _ => True) (fun _ => False) rfl rfl ?aP (fun _ hk => hk.elim) ?aF ?aO ?aB ?aS ?aL ?_; (case aP => exact rfl); (case aB => exact (by repeat (first | (with_reducible first | exact HB.out | apply bwA | apply bwN | apply bw1) | exact HB.out))); (case aF => exact (fun _ _ => trivial)); (case aO => exact (by (with_reducible repeat (first | apply Kd.R_alloc | apply Kd.R_drewN | apply Kd.R_drew)); exact HO_3.out)); (case aS => exact (bwZ (by repeat (first | (with_reducible first | exact HB.out | apply bwA | apply bwN | apply bw1) | exact HB.out)))); (case aL => have := LMc6.out; omega); intro v162 w7 ho hb hg hat; rw [← Ny161.out] at ho; have n0_ := Z0.mk (hb); have n1_ := Z0.mk (ho); clear HB; clear HO_3; have HB := n0_; have HO163 := n1_; clear n0_ n1_; clear ho hb hg hat))
                go_roundg k1
                case measure => have := HK1.out; omega
                case rel => exact ⟨(x2_1), (y161), (x4_1), (wrap64 (x9_1 + 1)), (by first | rfl | (simp; done) | (simp [*]; done)), (by first | rfl | (simp; done) | (simp [*]; done)), (by first | rfl | (simp; done) | (simp [*]; done)), H', ⟨by have := HK1.out; omega⟩, ⟨by (with_reducible repeat (first | apply Kd.R_alloc | apply Kd.R_drewN | apply Kd.R_drew)); exact HO163.out⟩, ⟨by repeat (first | (with_reducible first | exact HB.out | apply bwA | apply bwN | apply bw1) | exact HB.out)⟩⟩
              · rw [if_neg c6] at H
                exact absurd H (by simp)
            · rw [if_neg c5] at H
              have c5b0 : (((rd_L2 l0 x9_1).length : Int) == 0) = false := beq_eq_false_iff_ne.mpr c5
              have c5b1 : (((rd_L2 l0 x9_1).length : Int) != 0) = true := bne_iff_ne.mpr c5
              have c5b2 : ¬ ((rd_L2 l0 x9_1) = []) := fun h_ => c5 (by rw [h_]; rfl)
              by_cases c8 : x2_1 = 0
              · rw [if_pos c8] at H
                have c8b0 : (x2_1 == 0) = true := beq_iff_eq.mpr c8
                have c8b1 : (x2_1 != 0) = false := bne_eq_false_iff_eq.mpr c8
                clear c8
                have H' := Z0.mk H
                clear H
                have p160 : 0 ≤ (x9_1 : Int) := of_decide_eq_true (by first | (with_reducible assumption) | assumption)
                have q160 : x9_1 < (l0.length : Int) := of_decide_eq_true (by first | (with_reducible assumption) | assumption)
                obtain ⟨ad160, A160_0, c160_0, e160, hx160_0, hl160_0, hi160_0⟩ := at_L2 HR0.out x9_1 p160 q160
                cases e160
                replace hx160_0 := (HB.out.cell (World.block_lt_of_cell? w _ hx160_0)).trans hx160_0
                have HR160_0 := Z0.mk hi160_0
                have HC160_0 := Z0.mk hl160_0
                clear hi160_0 hl160_0
                replace p160 := eq_true p160
                replace q160 := eq_true q160
                go_wp2
                go_roundg k1
                case measure => have := HK1.out; omega
                case rel => exact ⟨(((rd_L2 l0 x9_1).length : Int)), (x3_1), (x4_1), (wrap64 (x9_1 + 1)), (by first | rfl | (simp; done) | (simp [*]; done)), (by first | rfl | (simp; done) | (simp [*]; done)), (by first | rfl | (simp; done) | (simp [*]; done)), H', ⟨by have := HK1.out; omega⟩, ⟨by (with_reducible repeat (first | apply Kd.R_alloc | apply Kd.R_drewN | apply Kd.R_drew)); exact HO_3.out⟩, ⟨by repeat (first | (with_reducible first | exact HB.out | apply bwA | apply bwN | apply bw1) | exact HB.out)⟩⟩
              · rw [if_neg c8] at H
                have c8b0 : (x2_1 == 0) = false := beq_eq_false_iff_ne.mpr c8
                have c8b1 : (x2_1 != 0) = true := bne_iff_ne.mpr c8
                by_cases c9 : x2_1 = ((rd_L2 l0 x9_1).length : Int)
                · rw [if_pos c9] at H
                  have c9b0 : (x2_1 == ((rd_L2 l0 x9_1).length : Int)) = true := beq_iff_eq.mpr c9
                  have c9b1 : (x2_1 != ((rd_L2 l0 x9_1).length : Int)) = false := bne_eq_false_iff_eq.mpr c9
                  clear c9
                  have H' := Z0.mk H
                  clear H
                  have p160 : 0 ≤ (x9_1 : Int) := of_decide_eq_true (by first | (with_reducible assumption) | assumption)
                  have q160 : x9_1 < (l0.length : Int) := of_decide_eq_true (by first | (with_reducible assumption) | assumption)
                  obtain ⟨ad160, A160_0, c160_0, e160, hx160_0, hl160_0, hi160_0⟩ := at_L2 HR0.out x9_1 p160 q160
                  cases e160
                  replace hx160_0 := (HB.out.cell (World.block_lt_of_cell? w _ hx160_0)).trans hx160_0
                  have HR160_0 := Z0.mk hi160_0
                  have HC160_0 := Z0.mk hl160_0
                  clear hi160_0 hl160_0
                  replace p160 := eq_true p160
                  replace q160 := eq_true q160
                  go_wp2
                  go_roundg k1
                  case measure => have := HK1.out; omega
                  case rel => exact ⟨(x2_1), (x3_1), (x4_1), (wrap64 (x9_1 + 1)), (by first | rfl | (simp; done) | (simp [*]; done)), (by first | rfl | (simp; done) | (simp [*]; done)), (by first | rfl | (simp; done) | (simp [*]; done)), H', ⟨by have := HK1.out; omega⟩, ⟨by (with_reducible repeat (first | apply Kd.R_alloc | apply Kd.R_drewN | apply Kd.R_drew)); exact HO_3.out⟩, ⟨by repeat (first | (with_reducible first | exact HB.out | apply bwA | apply bwN | apply bw1) | exact HB.out)⟩⟩
                · rw [if_neg c9] at H
                  have c9b0 : (x2_1 == ((rd_L2 l0 x9_1).length : Int)) = false := beq_eq_false_iff_ne.mpr c9
                  have c9b1 : (x2_1 != ((rd_L2 l0 x9_1).length : Int)) = true := bne_iff_ne.mpr c9
                  have H' := Z0.mk H
                  clear H
                  have p160 : 0 ≤ (x9_1 : Int) := of_decide_eq_true (by first | (with_reducible assumption) | assumption)
                  have q160 : x9_1 < (l0.length : Int) := of_decide_eq_true (by first | (with_reducible assumption) | assumption)
                  obtain ⟨ad160, A160_0, c160_0, e160, hx160_0, hl160_0, hi160_0⟩ := at_L2 HR0.out x9_1 p160 q160
                  cases e160
                  replace hx160_0 := (HB.out.cell (World.block_lt_of_cell? w _ hx160_0)).trans hx160_0
                  have HR160_0 := Z0.mk hi160_0
                  have HC160_0 := Z0.mk hl160_0
                  clear hi160_0 hl160_0
                  replace p160 := eq_true p160
                  replace q160 := eq_true q160
                  go_wp2
                  go_roundg k1
                  case measure => have := HK1.out; omega
                  case rel => exact ⟨(x2_1), (x3_1), (false), (wrap64 (x9_1 + 1)), (by first | rfl | (simp; done) | (simp [*]; done)), (by first | rfl | (simp; done) | (simp [*]; done)), (by first | rfl | (simp; done) | (simp [*]; done)), H', ⟨by have := HK1.out; omega⟩, ⟨by (with_reducible repeat (first | apply Kd.R_alloc | apply Kd.R_drewN | apply Kd.R_drew)); exact HO_3.out⟩, ⟨by repeat (first | (with_reducible first | exact HB.out | apply bwA | apply bwN | apply bw1) | exact HB.out)⟩⟩
          · rw [if_neg c4] at H
            exact absurd H (by simp)
        · rw [if_neg c3] at H
          exact absurd H (by simp)
      · rw [if_neg c2] at H
        have c2b0 : decide (x9_1 < (l0.length : Int)) = false := decide_eq_false c2
        clear c2
        simp only [Option.some.injEq, Prod.mk.injEq] at H
        obtain ⟨rfl, rfl, rfl⟩ := H
        go_wp2
        go_ret3
        exact ⟨_, by first | rfl | (simp [ewN, ewS] <;> rfl) | (simp [*, ewN, ewS] <;> rfl), by (with_reducible repeat (first | apply Kd.R_alloc | apply Kd.R_drewN | apply Kd.R_drew)); exact HO_3.out, by repeat (first | (with_reducible first | exact HB.out | apply bwA | apply bwN | apply bw1) | exact HB.out)⟩

end Go.Proofs.Ytcbjabnnokjnpaa.PA

namespace Go.Proofs.Ytcbjabnnokjnpaa.PA
open Go.RowKit Go.Proofs.YtcbjabnnokjnpaaW.PrintWords Go.Proofs.YtcbjabnnokjnpaaW.PrintLast Go.Proofs.YtcbjabnnokjnpaaW.PrintMore
attribute [local go_sem] max2_int min2_int max_two min_two max_three min_three max_four min_four   -- for this text's walks alone
set_option linter.unusedVariables false
set_option linter.unusedSimpArgs false

/-! ### shape_Whole: function 17 -/
def shape_Whole.f (k : Nat) (a0 : Int) (a1 : Int) (a2 : Int) (l3 : List (List Int)) : Option (Int × Int) := (shape_counted.f k a0 a1 a2 l3).bind fun t164 => (if t164 = 0 then ((shape_lengths.f k l3).bind fun bt165 => (if (bt165.2.1.length : Int) > 0 then (some (0, 161)) else (if bt165.2.2 = true then ((shape_odd.f a0 bt165.1).bind fun t170 => (if t170 = true then (some (0, 8)) else (some (bt165.1, 0)))) else (some (0, 162))))) else (some (0, t164)))
theorem shape_Whole.mono : ∀ a0 a1 a2 a3 k, LeO (shape_Whole.f k a0 a1 a2 a3) (shape_Whole.f (k + 1) a0 a1 a2 a3) := by
  intro a0 a1 a2 a3 k
  unfold shape_Whole.f
  repeat' first
      | (with_reducible exact shape_counted.mono _ _ _ _ _)
      | (with_reducible exact shape_lengths.mono _ _)
      | (with_reducible exact LeO.refl _)
      | (with_reducible exact LeO.none _)
      | (with_reducible refine LeO.ite ?_ ?_)
      | (with_reducible refine LeO.bind ?_ (fun _ => ?_))
      | exact shape_counted.mono _ _ _ _ _
      | exact shape_lengths.mono _ _
      | exact LeO.none _
      | refine LeO.ite ?_ ?_
      | refine LeO.bind ?_ (fun _ => ?_)
set_option maxHeartbeats 8000000 in
set_option maxRecDepth 100000 in
theorem shape_Whole.calls (k : Nat) (a0 : Int) (a1 : Int) (a2 : Int) (A3 : Option Addr) (c3 : Nat) (l3 : List (List Int)) (r1 : Int) (r2 : Int) (w : World) (hr3 : Kd.C (Kd.slice 5 (Kd.int .u8)) w A3 l3.length l3) (hc3 : l3.length ≤ c3) (h : shape_Whole.f k a0 a1 a2 l3 = some (r1, r2)) :
    Calls Try.prog 17 #[.int .i64 a0, .int .i64 a1, .int .i64 a2, .slice A3 l3.length c3] w fun e w' => e = .returned (.tuple #[.int .i64 r1, .int .i64 r2]) ∧ Below w.heap.size w w' := by
  have HR3 := Z0.mk hr3
  have HC3 := Z0.mk hc3
  clear hr3 hc3
  have HB := Z0.mk (Below.refl w.heap.size w)
  have H : ((shape_counted.f k a0 a1 a2 l3).bind fun t164 => (if t164 = 0 then ((shape_lengths.f k l3).bind fun bt165 => (if (bt165.2.1.length : Int) > 0 then (some (0, 161)) else (if bt165.2.2 = true then ((shape_odd.f a0 bt165.1).bind fun t170 => (if t170 = true then (some (0, 8)) else (some (bt165.1, 0)))) else (some (0, 162))))) else (some (0, t164)))) = some (r1, r2) := h
  clear h
  replace H := Option.bind_eq_some_iff.mp H
  obtain ⟨t164, A50, H⟩ := H
  try dsimp only at H
  have A5 := Z0.mk A50
  clear A50
  by_cases c6 : t164 = 0
  · rw [if_pos c6] at H
    have c6b0 : (t164 == 0) = true := beq_iff_eq.mpr c6
    have c6b1 : (t164 != 0) = false := bne_eq_false_iff_eq.mpr c6
    clear c6
    replace H := Option.bind_eq_some_iff.mp H
    obtain ⟨⟨t165, t166, t167⟩, A70, H⟩ := H
    dsimp only at H
    have A7 := Z0.mk A70
    clear A70
    by_cases c8 : (t166.length : Int) > 0
    · rw [if_pos c8] at H
      have c8b0 : decide (0 < (t166.length : Int)) = true := decide_eq_true c8
      have c8b1 : decide (0 < t166.length) = true := decide_eq_true (by omega)
      clear c8
      simp only [Option.some.injEq, Prod.mk.injEq] at H
      obtain ⟨rfl, rfl⟩ := H
      go_enter Try.func17, Try.ntmps17
      go_wp2_with (first | ((with_reducible refine gate_callee (f := 33) rfl ?_); refine goesL_ (some 18) rfl rfl Try.func33 (by kernel_rfl) rfl #[.int .i64 a0, .int .i64 a1, .int .i64 a2, .slice A3 l3.length c3] rfl (by (try simp only [List.map_toArray, List.map_cons, List.map_nil]); first | done | rfl | (simp only [List.length_drop, List.length_take]; rfl)) ?_; (with_reducible refine (shape_counted.calls k a0 a1 a2 _ _ l3 t164 _ ?side1 ?side2 A5.out).mono ?_); (case side1 => repeat (first | exact HR3.out | (with_reducible refine Kd.C_alloc ?_ _) | (with_reducible refine Kd.C_drewN ?_ _) | (with_reducible refine Kd.C_drew ?_))); (case side2 => exact HC3.out); rintro e w' ⟨rfl, ⟨nd, rfl⟩⟩; refine ⟨_, rfl, ?_⟩) | ((with_reducible refine gate_callee (f := 34) rfl ?_); refine goesL_ (some 24) rfl rfl Try.func34 (by kernel_rfl) rfl #[.slice A3 l3.length c3] rfl (by (try simp only [List.map_toArray, List.map_cons, List.map_nil]); first | done | rfl | (simp only [List.length_drop, List.length_take]; rfl)) ?_; (with_reducible refine (shape_lengths.calls k _ _ l3 t165 t166 t167 _ ?side1 ?side2 A7.out).mono ?_); (case side1 => repeat (first | exact HR3.out | (with_reducible refine Kd.C_alloc ?_ _) | (with_reducible refine Kd.C_drewN ?_ _) | (with_reducible refine Kd.C_drew ?_))); (case side2 => exact HC3.out); rintro e w9 ⟨v168, rfl, ho0, hb⟩; refine ⟨_, rfl, ?_⟩; have n0_ := Z0.mk (Kd.R_lower ho0 (bwZ (by repeat (first | (with_reducible first | exact HB.out | apply bwA | apply bwN | apply bw1) | exact HB.out)))); have n1_ := Z0.mk (bwT (by repeat (first | (with_reducible first | exact HB.out | apply bwA | apply bwN | apply bw1) | exact HB.out)) hb); clear HB; have HO169 := n0_; have HB := n1_; clear n0_ n1_; (try clear hb); (try clear hb2); (try clear hk); (try clear hi); (try clear ho0); obtain ⟨Ao10, co10, eo10⟩ := Kd.R_slice HO169.out; subst eo10))
      go_ret2
      exact ⟨by first | rfl | (simp [ewN, ewS] <;> rfl) | (simp [*, ewN, ewS] <;> rfl), by repeat (first | (with_reducible first | exact HB.out | apply bwA | apply bwN | apply bw1) | exact HB.out)⟩
    · rw [if_neg c8] at H
      have c8b0 : decide (0 < (t166.length : Int)) = false := decide_eq_false c8
      have c8b1 : decide (0 < t166.length) = false := decide_eq_false (by omega)
      clear c8
      by_cases c11 : t167 = true
      · subst c11
        have H1 : ((shape_odd.f a0 t165).bind fun t170 => (if t170 = true then (some (0, 8)) else (some (t165, 0)))) = some (r1, r2) := by rw [if_pos rfl] at H; exact H
        clear H
        have H := H1
        clear H1
        replace H := Option.bind_eq_some_iff.mp H
        obtain ⟨t170, A120, H⟩ := H
        try dsimp only at H
        have A12 := Z0.mk A120
        clear A120
        by_cases c13 : t170 = true
        · subst c13
          have H1 : (some (0, 8)) = some (r1, r2) := by rw [if_pos rfl] at H; exact H
          clear H
          have H := H1
          clear H1
          simp only [Option.some.injEq, Prod.mk.injEq] at H
          obtain ⟨rfl, rfl⟩ := H
          go_enter Try.func17, Try.ntmps17
          go_wp2_with (first | ((with_reducible refine gate_callee (f := 33) rfl ?_); refine goesL_ (some 18) rfl rfl Try.func33 (by kernel_rfl) rfl #[.int .i64 a0, .int .i64 a1, .int .i64 a2, .slice A3 l3.length c3] rfl (by (try simp only [List.map_toArray, List.map_cons, List.map_nil]); first | done | rfl | (simp only [List.length_drop, List.length_take]; rfl)) ?_; (with_reducible refine (shape_counted.calls k a0 a1 a2 _ _ l3 t164 _ ?side1 ?side2 A5.out).mono ?_); (case side1 => repeat (first | exact HR3.out | (with_reducible refine Kd.C_alloc ?_ _) | (with_reducible refine Kd.C_drewN ?_ _) | (with_reducible refine Kd.C_drew ?_))); (case side2 => exact HC3.out); rintro e w' ⟨rfl, ⟨nd, rfl⟩⟩; refine ⟨_, rfl, ?_⟩) | ((with_reducible refine gate_callee (f := 34) rfl ?_); refine goesL_ (some 24) rfl rfl Try.func34 (by kernel_rfl) rfl #[.slice A3 l3.length c3] rfl (by (try simp only [List.map_toArray, List.map_cons, List.map_nil]); first | done | rfl | (simp only [List.length_drop, List.length_take]; rfl)) ?_; (with_reducible refine (shape_lengths.calls k _ _ l3 t165 t166 true _ ?side1 ?side2 A7.out).mono ?_); (case side1 => repeat (first | exact HR3.out | (with_reducible refine Kd.C_alloc ?_ _) | (with_reducible refine Kd.C_drewN ?_ _) | (with_reducible refine Kd.C_drew ?_))); (case side2 => exact HC3.out); rintro e w14 ⟨v168, rfl, ho0, hb⟩; refine ⟨_, rfl, ?_⟩; have n0_ := Z0.mk (Kd.R_lower ho0 (bwZ (by repeat (first | (with_reducible first | exact HB.out | apply bwA | apply bwN | apply bw1) | exact HB.out)))); have n1_ := Z0.mk (bwT (by repeat (first | (with_reducible first | exact HB.out | apply bwA | apply bwN | apply bw1) | exact HB.out)) hb); clear HB; have HO169 := n0_; have HB := n1_; clear n0_ n1_; (try clear hb); (try clear hb2); (try clear hk); (try clear hi); (try clear ho0); obtain ⟨Ao15, co15, eo15⟩ := Kd.R_slice HO169.out; subst eo15) | ((with_reducible refine gate_callee (f := 30) rfl ?_); refine goesL_ (some 38) rfl rfl Try.func30 (by kernel_rfl) rfl #[.int .i64 a0, .int .i64 t165] rfl (by (try simp only [List.map_toArray, List.map_cons, List.map_nil]); first | done | rfl | (simp only [List.length_drop, List.length_take]; rfl)) ?_; (with_reducible refine (shape_odd.calls a0 t165 true _ A12.out).mono ?_); rintro e w' ⟨rfl, ⟨nd, rfl⟩⟩; refine ⟨_, rfl, ?_⟩))
          go_ret2
          exact ⟨by first | rfl | (simp [ewN, ewS] <;> rfl) | (simp [*, ewN, ewS] <;> rfl), by repeat (first | (with_reducible first | exact HB.out | apply bwA | apply bwN | apply bw1) | exact HB.out)⟩
        · replace c13 := Bool.eq_false_iff.mpr c13
          subst c13
          have H1 : (some (t165, 0)) = some (r1, r2) := by rw [if_neg (show ¬ (false = true) by decide)] at H; exact H
          clear H
          have H := H1
          clear H1
          simp only [Option.some.injEq, Prod.mk.injEq] at H
          obtain ⟨rfl, rfl⟩ := H
          go_enter Try.func17, Try.ntmps17
          go_wp2_with (first | ((with_reducible refine gate_callee (f := 33) rfl ?_); refine goesL_ (some 18) rfl rfl Try.func33 (by kernel_rfl) rfl #[.int .i64 a0, .int .i64 a1, .int .i64 a2, .slice A3 l3.length c3] rfl (by (try simp only [List.map_toArray, List.map_cons, List.map_nil]); first | done | rfl | (simp only [List.length_drop, List.length_take]; rfl)) ?_; (with_reducible refine (shape_counted.calls k a0 a1 a2 _ _ l3 t164 _ ?side1 ?side2 A5.out).mono ?_); (case side1 => repeat (first | exact HR3.out | (with_reducible refine Kd.C_alloc ?_ _) | (with_reducible refine Kd.C_drewN ?_ _) | (with_reducible refine Kd.C_drew ?_))); (case side2 => exact HC3.out); rintro e w' ⟨rfl, ⟨nd, rfl⟩⟩; refine ⟨_, rfl, ?_⟩) | ((with_reducible refine gate_callee (f := 34) rfl ?_); refine goesL_ (some 24) rfl rfl Try.func34 (by kernel_rfl) rfl #[.slice A3 l3.length c3] rfl (by (try simp only [List.map_toArray, List.map_cons, List.map_nil]); first | done | rfl | (simp only [List.length_drop, List.length_take]; rfl)) ?_; (with_reducible refine (shape_lengths.calls k _ _ l3 t165 t166 true _ ?side1 ?side2 A7.out).mono ?_); (case side1 => repeat (first | exact HR3.out | (with_reducible refine Kd.C_alloc ?_ _) | (with_reducible refine Kd.C_drewN ?_ _) | (with_reducible refine Kd.C_drew ?_))); (case side2 => exact HC3.out); rintro e w16 ⟨v168, rfl, ho0, hb⟩; refine ⟨_, rfl, ?_⟩; have n0_ := Z0.mk (Kd.R_lower ho0 (bwZ (by repeat (first | (with_reducible first | exact HB.out | apply bwA | apply bwN | apply bw1) | exact HB.out)))); have n1_ := Z0.mk (bwT (by repeat (first | (with_reducible first | exact HB.out | apply bwA | apply bwN | apply bw1) | exact HB.out)) hb); clear HB; have HO169 := n0_; have HB := n1_; clear n0_ n1_; (try clear hb); (try clear hb2); (try clear hk); (try clear hi); (try clear ho0); obtain ⟨Ao17, co17, eo17⟩ := Kd.R_slice HO169.out; subst eo17) | ((with_reducible refine gate_callee (f := 30) rfl ?_); refine goesL_ (some 38) rfl rfl Try.func30 (by kernel_rfl) rfl #[.int .i64 a0, .int .i64 t165] rfl (by (try simp only [List.map_toArray, List.map_cons, List.map_nil]); first | done | rfl | (simp only [List.length_drop, List.length_take]; rfl)) ?_; (with_reducible refine (shape_odd.calls a0 t165 false _ A12.out).mono ?_); rintro e w' ⟨rfl, ⟨nd, rfl⟩⟩; refine ⟨_, rfl, ?_⟩))
          go_ret2
          exact ⟨by first | rfl | (simp [ewN, ewS] <;> rfl) | (simp [*, ewN, ewS] <;> rfl), by repeat (first | (with_reducible first | exact HB.out | apply bwA | apply bwN | apply bw1) | exact HB.out)⟩
      · replace c11 := Bool.eq_false_iff.mpr c11
        subst c11
        have H1 : (some (0, 162)) = some (r1, r2) := by rw [if_neg (show ¬ (false = true) by decide)] at H; exact H
        clear H
        have H := H1
        clear H1
        simp only [Option.some.injEq, Prod.mk.injEq] at H
        obtain ⟨rfl, rfl⟩ := H
        go_enter Try.func17, Try.ntmps17
        go_wp2_with (first | ((with_reducible refine gate_callee (f := 33) rfl ?_); refine goesL_ (some 18) rfl rfl Try.func33 (by kernel_rfl) rfl #[.int .i64 a0, .int .i64 a1, .int .i64 a2, .slice A3 l3.length c3] rfl (by (try simp only [List.map_toArray, List.map_cons, List.map_nil]); first | done | rfl | (simp only [List.length_drop, List.length_take]; rfl)) ?_; (with_reducible refine (shape_counted.calls k a0 a1 a2 _ _ l3 t164 _ ?side1 ?side2 A5.out).mono ?_); (case side1 => repeat (first | exact HR3.out | (with_reducible refine Kd.C_alloc ?_ _) | (with_reducible refine Kd.C_drewN ?_ _) | (with_reducible refine Kd.C_drew ?_))); (case side2 => exact HC3.out); rintro e w' ⟨rfl, ⟨nd, rfl⟩⟩; refine ⟨_, rfl, ?_⟩) | ((with_reducible refine gate_callee (f := 34) rfl ?_); refine goesL_ (some 24) rfl rfl Try.func34 (by kernel_rfl) rfl #[.slice A3 l3.length c3] rfl (by (try simp only [List.map_toArray, List.map_cons, List.map_nil]); first | done | rfl | (simp only [List.length_drop, List.length_take]; rfl)) ?_; (with_reducible refine (shape_lengths.calls k _ _ l3 t165 t166 false _ ?side1 ?side2 A7.out).mono ?_); (case side1 => repeat (first | exact HR3.out | (with_reducible refine Kd.C_alloc ?_ _) | (with_reducible refine Kd.C_drewN ?_ _) | (with_reducible refine Kd.C_drew ?_))); (case side2 => exact HC3.out); rintro e w18 ⟨v168, rfl, ho0, hb⟩; refine ⟨_, rfl, ?_⟩; have n0_ := Z0.mk (Kd.R_lower ho0 (bwZ (by repeat (first | (with_reducible first | exact HB.out | apply bwA | apply bwN | apply bw1) | exact HB.out)))); have n1_ := Z0.mk (bwT (by repeat (first | (with_reducible first | exact HB.out | apply bwA | apply bwN | apply bw1) | exact HB.out)) hb); clear HB; have HO169 := n0_; have HB := n1_; clear n0_ n1_; (try clear hb); (try clear hb2); (try clear hk); (try clear hi); (try clear ho0); obtain ⟨Ao19, co19, eo19⟩ := Kd.R_slice HO169.out; subst eo19))
        go_ret2
        exact ⟨by first | rfl | (simp [ewN, ewS] <;> rfl) | (simp [*, ewN, ewS] <;> rfl), by repeat (first | (with_reducible first | exact HB.out | apply bwA | apply bwN | apply bw1) | exact HB.out)⟩
  · rw [if_neg c6] at H
    have c6b0 : (t164 == 0) = false := beq_eq_false_iff_ne.mpr c6
    have c6b1 : (t164 != 0) = true := bne_iff_ne.mpr c6
    simp only [Option.some.injEq, Prod.mk.injEq] at H
    obtain ⟨rfl, rfl⟩ := H
    go_enter Try.func17, Try.ntmps17
    go_wp2_with (first | ((with_reducible refine gate_callee (f := 33) rfl ?_); refine goesL_ (some 18) rfl rfl Try.func33 (by kernel_rfl) rfl #[.int .i64 a0, .int .i64 a1, .int .i64 a2, .slice A3 l3.length c3] rfl (by (try simp only [List.map_toArray, List.map_cons, List.map_nil]); first | done | rfl | (simp only [List.length_drop, List.length_take]; rfl)) ?_; (with_reducible refine (shape_counted.calls k a0 a1 a2 _ _ l3 t164 _ ?side1 ?side2 A5.out).mono ?_); (case side1 => repeat (first | exact HR3.out | (with_reducible refine Kd.C_alloc ?_ _) | (with_reducible refine Kd.C_drewN ?_ _) | (with_reducible refine Kd.C_drew ?_))); (case side2 => exact HC3.out); rintro e w' ⟨rfl, ⟨nd, rfl⟩⟩; refine ⟨_, rfl, ?_⟩))
    go_ret2
    exact ⟨by first | rfl | (simp [ewN, ewS] <;> rfl) | (simp [*, ewN, ewS] <;> rfl), by repeat (first | (with_reducible first | exact HB.out | apply bwA | apply bwN | apply bw1) | exact HB.out)⟩

end Go.Proofs.Ytcbjabnnokjnpaa.PA
