/- Parameters with fewer shards are valid where those with more are; the families end where the document says. -/
import Derived.Test.YtcbjabnnokjnpaaPureA
import Derived.Laws.BitsLemmas
set_option linter.unusedVariables false
namespace Go.Proofs.Ytcbjabnnokjnpaa.Pure
open Go.RowKit Go.Proofs.Ytcbjabnnokjnpaa.PA Go.Proofs.YtcbjabnnokjnpaaW.PrintWords Go.Proofs.YtcbjabnnokjnpaaW.PrintLast Go.Proofs.YtcbjabnnokjnpaaW.PrintMore

theorem awake_ev : Ev (fun k => culletlaw16_awake.f k) true := Ev.of (fun k => culletlaw16_awake.mono k) (k := 60) (by decide +kernel)

theorem ShapeNames : culletlaw16_ShapeNames.Pure := ⟨80, by decide +kernel⟩

theorem land_ne {n s : Nat} (h : n / 2 ^ s % 2 = 1) (h' : (n - 1) / 2 ^ s % 2 = 1) : n &&& (n - 1) ≠ 0 := fun e => by
  have := Nat.testBit_and n (n - 1) s
  rw [e] at this
  simp [Nat.testBit_eq_decide_div_mod_eq, h, h'] at this
theorem bits_and_nat (a b : Nat) (ha : a < 2 ^ 62) (hb : b < 2 ^ 62) : Go.bits .and .i64 (a : Int) (b : Int) = ((a &&& b : Nat) : Int) :=
  (bits_nat .i64 62 (by decide) (fun n h0 h1 => by rw [IntKind.wrap_i64]; omega) a b ha hb).1
theorem and_pow {m : Int} (h1 : 1 ≤ m) (h2 : m ≤ 65536) (h : Go.bits .and .i64 m (wrap64 (m - 1)) = 0) : p2 m = m := by
  obtain ⟨n, rfl⟩ := Int.eq_ofNat_of_zero_le (show 0 ≤ m by omega)
  rw [w64 (by omega) (by omega), show ((n : Int) - 1) = ((n - 1 : Nat) : Int) by omega, bits_and_nat _ _ (by omega) (by omega)] at h
  have h : n &&& (n - 1) = 0 := by exact_mod_cast h
  have hge := p2_ge h2
  by_cases h3 : (n : Int) = 1
  · rw [p2_one (by omega), h3]
  · have hlt := p2_lt (n := n) (by omega) h2
    refine Classical.byContradiction fun hne => ?_
    rcases p2_is n with q | q | q | q | q | q | q | q | q | q | q | q | q | q | q | q | q
    · omega
    · omega
    · exact land_ne (n := n) (s := 1) (by omega) (by omega) h
    · exact land_ne (n := n) (s := 2) (by omega) (by omega) h
    · exact land_ne (n := n) (s := 3) (by omega) (by omega) h
    · exact land_ne (n := n) (s := 4) (by omega) (by omega) h
    · exact land_ne (n := n) (s := 5) (by omega) (by omega) h
    · exact land_ne (n := n) (s := 6) (by omega) (by omega) h
    · exact land_ne (n := n) (s := 7) (by omega) (by omega) h
    · exact land_ne (n := n) (s := 8) (by omega) (by omega) h
    · exact land_ne (n := n) (s := 9) (by omega) (by omega) h
    · exact land_ne (n := n) (s := 10) (by omega) (by omega) h
    · exact land_ne (n := n) (s := 11) (by omega) (by omega) h
    · exact land_ne (n := n) (s := 12) (by omega) (by omega) h
    · exact land_ne (n := n) (s := 13) (by omega) (by omega) h
    · exact land_ne (n := n) (s := 14) (by omega) (by omega) h
    · exact land_ne (n := n) (s := 15) (by omega) (by omega) h

theorem ShapeLimits : culletlaw16_ShapeLimits.Pure := by
  intro f k m hf hk hm
  have bf := Go.bounds_i64 hf
  have bk := Go.bounds_i64 hk
  have bm := Go.bounds_i64 hm
  refine Ev.rounds ?_
  refine ev_bind (g := fun n => culletlaw16_awake.f n) (fun n => by unfold culletlaw16_ShapeLimits.f; rfl) awake_ev ?_
  simp only [if_true]
  refine Ev.bind (params_ev f k m) ?_
  have hp := params_ev f k m
  by_cases hfam : f < 0 ∨ 2 < f
  · have e : par f k m = 2 := by unfold par; rw [if_pos hfam]
    refine Ev.step (f := fun n => some true) (fun n => ?_) (Ev.now _)
    have j0 : culletlaw16_ShapeLimits.j0 (n + 1) f k m 2 true = some true := by simp [culletlaw16_ShapeLimits.j0]
    rw [e]
    by_cases a : f < 0
    · rw [if_pos a]; exact j0
    · rw [if_neg a, show decide (f > 2) = true by simp; omega]; exact j0
  · refine Ev.congr (f := fun n => culletlaw16_ShapeLimits.j0 n f k m (par f k m) false) (fun n => by rw [if_neg (by omega), show decide (f > 2) = false by simp; omega]) ?_
    by_cases hkm : k < 1 ∨ m < 1
    · have e : par f k m = 4 := by unfold par; rw [if_neg hfam, if_pos (by omega)]
      rw [e]
      refine Ev.step (f := fun n => culletlaw16_ShapeLimits.j1 n f k m 4 true) (fun n => ?_) (Ev.step (f := fun n => some true) (fun n => by simp [culletlaw16_ShapeLimits.j1]) (Ev.now _))
      simp only [culletlaw16_ShapeLimits.j0]
      rw [if_neg (by simp)]
      by_cases a : k < 1
      · rw [if_pos a]
      · rw [if_neg a, show decide (m < 1) = true by simp; omega]
    · refine Ev.step (f := fun n => culletlaw16_ShapeLimits.j1 n f k m (par f k m) false) (fun n => ?_) ?_
      · simp only [culletlaw16_ShapeLimits.j0]
        rw [if_neg (by simp), if_neg (by omega), show decide (m < 1) = false by simp; omega]
      · by_cases e : par f k m = 0
        · obtain ⟨o1, o2, o3, o4, o5, o6, o7⟩ := par_ok e
          have fin : (if (wrap64 (k + m)) ≤ 256 then (some true) else (if f = 2 then (some (decide ((wrap64 (k + m)) ≤ 65536))) else (some false))) = some true := by
            rw [w64 (by omega) (by omega)]
            by_cases a : k + m ≤ 256
            · rw [if_pos a]
            · rw [if_neg a]
              have : f = 2 := by
                refine Classical.byContradiction fun h2 => ?_
                have := ((par_iff hfam).1 e).2.2.2.2.1 h2
                omega
              rw [if_pos this]; simp; omega
          have q := (par_iff hfam).1 e
          have down1 : 1 < k → par f (k - 1) m = 0 := fun h => (par_iff hfam).2 ⟨by omega, by omega, by omega, by omega, fun h => by have := q.2.2.2.2.1 h; omega, fun h => by have := q.2.2.2.2.2 h; omega⟩
          have down2 : 1 < m → par f k (m - 1) = 0 := fun h => by
            have hmo := p2_mono (n := m - 1) (m := m) (by omega) (by omega)
            exact (par_iff hfam).2 ⟨by omega, by omega, by omega, by omega, fun h => by have := q.2.2.2.2.1 h; omega, fun h => by have := q.2.2.2.2.2 h; omega⟩
          rw [e]
          have stepm : Ev (fun n => if m > 1 then ((shape_Params.f n f k (wrap64 (m - 1))).bind fun t => (if t = 0 then (if (wrap64 (k + m)) ≤ 256 then (some true) else (if f = 2 then (some (decide ((wrap64 (k + m)) ≤ 65536))) else (some false))) else (some false))) else (if (wrap64 (k + m)) ≤ 256 then (some true) else (if f = 2 then (some (decide ((wrap64 (k + m)) ≤ 65536))) else (some false)))) true := by
            by_cases a : m > 1
            · simp only [if_pos a]
              rw [w64 (n := m - 1) (by omega) (by omega)]
              refine Ev.bind (params_ev f k (m - 1)) (ev_const fun n => ?_)
              rw [if_pos (down2 a)]; exact fin
            · simp only [if_neg a]; exact ev_const fun n => fin
          refine Ev.step (f := fun n => if k > 1 then ((shape_Params.f n f (wrap64 (k - 1)) m).bind fun t => (if t = 0 then (if m > 1 then ((shape_Params.f n f k (wrap64 (m - 1))).bind fun t => (if t = 0 then (if (wrap64 (k + m)) ≤ 256 then (some true) else (if f = 2 then (some (decide ((wrap64 (k + m)) ≤ 65536))) else (some false))) else (some false))) else (if (wrap64 (k + m)) ≤ 256 then (some true) else (if f = 2 then (some (decide ((wrap64 (k + m)) ≤ 65536))) else (some false)))) else (some false))) else (if m > 1 then ((shape_Params.f n f k (wrap64 (m - 1))).bind fun t => (if t = 0 then (if (wrap64 (k + m)) ≤ 256 then (some true) else (if f = 2 then (some (decide ((wrap64 (k + m)) ≤ 65536))) else (some false))) else (some false))) else (if (wrap64 (k + m)) ≤ 256 then (some true) else (if f = 2 then (some (decide ((wrap64 (k + m)) ≤ 65536))) else (some false))))) (fun n => by simp only [culletlaw16_ShapeLimits.j1]; rw [if_neg (by simp)]; rfl) ?_
          by_cases a : k > 1
          · simp only [if_pos a]
            rw [w64 (n := k - 1) (by omega) (by omega)]
            refine Ev.bind (params_ev f (k - 1) m) ?_
            simp only [if_pos (down1 a)]
            exact stepm
          · simp only [if_neg a]; exact stepm
        · have e4 : par f k m = 4 := (par_cases hfam).resolve_left e
          rw [e4]
          by_cases big : 1048576 < k ∨ 1048576 < m
          · refine Ev.step (f := fun n => culletlaw16_ShapeLimits.j2 n f k m true) (fun n => ?_) (Ev.step (f := fun n => some true) (fun n => by simp [culletlaw16_ShapeLimits.j2]) (Ev.now _))
            simp only [culletlaw16_ShapeLimits.j1]
            rw [if_neg (by simp), if_neg (by omega), if_pos trivial]
            by_cases a : k > 1048576
            · rw [if_pos a]
            · rw [if_neg a, show decide (m > 1048576) = true by simp; omega]
          · refine Ev.step (f := fun n => culletlaw16_ShapeLimits.j2 n f k m false) (fun n => ?_) ?_
            · simp only [culletlaw16_ShapeLimits.j1]
              rw [if_neg (by simp), if_neg (by omega), if_pos trivial, if_neg (by omega), show decide (m > 1048576) = false by simp; omega]
            · refine Ev.step (f := fun n => some true) (fun n => ?_) (Ev.now _)
              simp only [culletlaw16_ShapeLimits.j2]
              rw [if_neg (by simp), w64 (n := k + m) (by omega) (by omega), w64 (n := 2 * m) (by omega) (by omega), w64 (n := k + 2 * m) (by omega) (by omega)]
              have hno : ¬ (1 ≤ k ∧ 1 ≤ m ∧ k ≤ 65536 ∧ m ≤ 65536 ∧ (f ≠ 2 → k + m ≤ 256) ∧ (f = 2 → k + p2 m ≤ 65536)) := fun h => e ((par_iff hfam).2 h)
              by_cases h2 : f = 2
              · rw [if_pos h2]
                by_cases s : k + m > 65536
                · rw [if_pos s]
                · rw [if_neg s]
                  have hbig : 65536 < k + p2 m := by
                    refine Classical.byContradiction fun hn => hno ⟨by omega, by omega, by omega, by omega, fun h => by omega, fun _ => by omega⟩
                  have hlt := p2_lt (n := m)
                  rw [if_neg (fun ha => by have := and_pow (m := m) (by omega) (by omega) ha; omega)]
                  congr 1
                  simp
                  by_cases m1 : 1 < m
                  · have := hlt m1 (by omega); omega
                  · have := p2_one (n := m) (by omega); omega
              · rw [if_neg h2]
                congr 1
                simp
                refine Classical.byContradiction fun hn => hno ⟨by omega, by omega, by omega, by omega, fun h => by omega, fun h => absurd h h2⟩
end Go.Proofs.Ytcbjabnnokjnpaa.Pure
