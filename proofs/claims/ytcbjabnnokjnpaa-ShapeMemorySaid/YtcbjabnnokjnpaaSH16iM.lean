import Derived.Test.YtcbjabnnokjnpaaProg
import Derived.Test.YtcbjabnnokjnpaaFwTM
import Derived.Test.YtcbjabnnokjnpaaSH16hM
set_option linter.all false
set_option linter.unusedVariables false
set_option linter.unusedSimpArgs false
set_option maxRecDepth 100000
set_option maxHeartbeats 1000000
namespace Go.Proofs.Ytcbjabnnokjnpaa.Fw
open Go Go.Fw Go.Proofs
attribute [local irreducible] stepI
def c_shape_Join : C := .seq (.ops [⟨0, (some 10), none, .mov (.c (.slice none 0 0)), []⟩, ⟨1, (some 11), none, .mov (.c (.int .i64 0)), []⟩]) (.seq (.seq (.ops [⟨0, (some 19), none, .mov (.t 0), []⟩, ⟨1, (some 20), none, .mov (.t 1), []⟩, ⟨2, (some 21), none, .mov (.t 2), []⟩, ⟨3, (some 22), none, .call (.c (.func (.func 14) #[] #[])) [.t 19, .t 20, .t 21], []⟩, ⟨4, (some 12), none, .mov (.t 22), []⟩]) (.seq (.ops [⟨0, (some 23), none, .mov (.t 12), []⟩, ⟨1, (some 24), none, .bin .neq (.t 23) (.c (.int .i64 0)), []⟩]) (.ite (.t 24) (.seq (.ops [⟨0, (some 25), none, .mov (.t 12), []⟩, ⟨1, (some 10), none, .mov (.c (.slice none 0 0)), []⟩, ⟨2, (some 11), none, .mov (.t 25), []⟩]) .ret) .skip))) (.seq (.seq (.ops [⟨0, (some 26), none, .mov (.t 3), []⟩, ⟨1, (some 27), none, .len (.t 26), []⟩, ⟨2, (some 28), none, .mov (.t 1), []⟩, ⟨3, (some 29), none, .bin .lss (.t 27) (.t 28), []⟩]) (.ite (.t 29) (.seq (.ops [⟨0, (some 10), none, .mov (.c (.slice none 0 0)), []⟩, ⟨1, (some 11), none, .mov (.c (.int .i64 160)), []⟩]) .ret) .skip)) (.seq (.ops [⟨0, (some 31), none, .mov (.t 3), []⟩, ⟨1, (some 32), none, .mov (.t 1), []⟩, ⟨2, (some 33), none, .slc 1 (.t 31) none (some (.t 32)) none, []⟩, ⟨3, (some 34), none, .call (.c (.func (.func 34) #[] #[])) [.t 33], []⟩, ⟨4, (some 30), none, .mov (.t 34), []⟩, ⟨5, (some 35), none, .ext (.t 30) 0, []⟩, ⟨6, (some 36), none, .ext (.t 30) 1, []⟩, ⟨7, (some 37), none, .ext (.t 30) 2, []⟩, ⟨8, (some 13), none, .mov (.t 35), []⟩, ⟨9, (some 14), none, .mov (.t 36), []⟩, ⟨10, (some 15), none, .mov (.t 37), []⟩]) (.seq (.block 0 (.seq (.ops [⟨0, (some 39), none, .mov (.t 14), []⟩, ⟨1, (some 40), none, .len (.t 39), []⟩, ⟨2, (some 41), none, .bin .gtr (.t 40) (.c (.int .i64 0)), []⟩, ⟨3, (some 38), none, .mov (.t 41), []⟩]) (.ite (.t 38) (.seq (.ops [⟨0, (some 10), none, .mov (.c (.slice none 0 0)), []⟩, ⟨1, (some 11), none, .mov (.c (.int .i64 161)), []⟩]) .ret) (.seq (.ops [⟨0, (some 43), none, .mov (.t 15), []⟩, ⟨1, (some 44), none, .un .not (.t 43), []⟩, ⟨2, (some 42), none, .mov (.t 44), []⟩]) (.ite (.t 42) (.seq (.ops [⟨0, (some 10), none, .mov (.c (.slice none 0 0)), []⟩, ⟨1, (some 11), none, .mov (.c (.int .i64 162)), []⟩]) .ret) (.seq (.ops [⟨0, (some 46), none, .mov (.t 0), []⟩, ⟨1, (some 47), none, .mov (.t 13), []⟩, ⟨2, (some 48), none, .call (.c (.func (.func 30) #[] #[])) [.t 46, .t 47], []⟩, ⟨3, (some 45), none, .mov (.t 48), []⟩]) (.ite (.t 45) (.seq (.ops [⟨0, (some 10), none, .mov (.c (.slice none 0 0)), []⟩, ⟨1, (some 11), none, .mov (.c (.int .i64 8)), []⟩]) .ret) (.seq (.ops [⟨0, (some 50), none, .mov (.t 4), []⟩, ⟨1, (some 51), none, .bin .lss (.t 50) (.c (.int .i64 0)), []⟩, ⟨2, (some 52), none, .mov (.t 51), []⟩, ⟨3, (some 53), (some (52, false)), .mov (.t 4), []⟩, ⟨4, (some 54), (some (52, false)), .mov (.t 1), []⟩, ⟨5, (some 55), (some (52, false)), .mov (.t 13), []⟩, ⟨6, (some 56), (some (52, false)), .bin .mul (.t 54) (.t 55), []⟩, ⟨7, (some 57), (some (52, false)), .bin .gtr (.t 53) (.t 56), []⟩, ⟨8, (some 58), none, .pick (.t 52) (.c (.bool true)) (.t 57), []⟩, ⟨9, (some 49), none, .mov (.t 58), []⟩]) (.ite (.t 49) (.seq (.ops [⟨0, (some 10), none, .mov (.c (.slice none 0 0)), []⟩, ⟨1, (some 11), none, .mov (.c (.int .i64 164)), []⟩]) .ret) .skip))))))))) (.seq (.ops [⟨0, (some 59), none, .mov (.t 4), []⟩, ⟨1, (some 60), none, .mks 5 1 [.int .u8 0] (.c (.int .i64 0)) (.t 59), []⟩, ⟨2, (some 16), none, .mov (.t 60), []⟩]) (.seq (.seq (.ops [⟨0, (some 61), none, .mov (.t 3), []⟩, ⟨1, (some 62), none, .mov (.t 1), []⟩, ⟨2, (some 63), none, .slc 1 (.t 61) none (some (.t 62)) none, []⟩, ⟨3, (some 64), none, .len (.t 63), []⟩, ⟨4, (some 65), none, .mov (.c (.int .i64 0)), []⟩]) (.block 1 (.loop (.seq (.ops [⟨0, (some 66), none, .bin .lss (.t 65) (.t 64), []⟩]) (.seq (.ite (.t 66) .skip (.exit 1)) (.seq (.block 2 (.seq (.ops [⟨0, (some 67), none, .ixs 1 (.t 63) (.t 65), []⟩, ⟨1, (some 68), none, .ld (.t 67), []⟩, ⟨2, (some 18), none, .mov (.t 68), []⟩]) (.ops [⟨0, (some 69), none, .mov (.t 16), []⟩, ⟨1, (some 70), none, .mov (.t 18), []⟩, ⟨2, (some 71), none, .mov (.t 18), []⟩, ⟨3, (some 72), none, .len (.t 71), []⟩, ⟨4, (some 73), none, .mov (.t 4), []⟩, ⟨5, (some 74), none, .mov (.t 16), []⟩, ⟨6, (some 75), none, .len (.t 74), []⟩, ⟨7, (some 76), none, .bin .sub (.t 73) (.t 75), []⟩, ⟨8, (some 77), none, .mnx true (.t 72) (.t 76), []⟩, ⟨9, (some 78), none, .slc 1 (.t 70) none (some (.t 77)) none, []⟩, ⟨10, (some 79), none, .app 5 1 [.int .u8 0] (.t 69) (.t 78), []⟩, ⟨11, (some 16), none, .mov (.t 79), []⟩]))) (.ops [⟨0, (some 80), none, .bin .add (.t 65) (.c (.int .i64 1)), []⟩, ⟨1, (some 65), none, .mov (.t 80), []⟩]))))))) (.seq (.ops [⟨0, (some 81), none, .mov (.t 16), []⟩, ⟨1, (some 10), none, .mov (.t 81), []⟩, ⟨2, (some 11), none, .mov (.c (.int .i64 0)), []⟩]) .ret)))))))
attribute [irreducible] c_shape_Join
theorem run_shape_Join {args : List Value} {w : World} {K : Value → World → Prop} (hn : args.length ≤ 82) (h : WP Try.prog c_shape_Join (endQ [.t 10, .t 11] K) (initT args) w) : CallV Try.prog 18 args w K :=
  call_of follows Try.func18 (by kernel_rfl) (by kernel_rfl) hn h
def c_culletlaw16_same : C := .seq (.ops [⟨0, (some 4), none, .mov (.c (.bool false)), []⟩]) (.seq (.seq (.ops [⟨0, (some 6), none, .mov (.t 0), []⟩, ⟨1, (some 7), none, .len (.t 6), []⟩, ⟨2, (some 8), none, .mov (.t 1), []⟩, ⟨3, (some 9), none, .len (.t 8), []⟩, ⟨4, (some 10), none, .bin .neq (.t 7) (.t 9), []⟩]) (.ite (.t 10) (.seq (.ops [⟨0, (some 4), none, .mov (.c (.bool false)), []⟩]) .ret) .skip)) (.seq (.seq (.ops [⟨0, (some 5), none, .mov (.c (.int .i64 0)), []⟩]) (.block 0 (.loop (.seq (.seq (.ops [⟨0, (some 11), none, .mov (.t 5), []⟩, ⟨1, (some 12), none, .mov (.t 0), []⟩, ⟨2, (some 13), none, .len (.t 12), []⟩, ⟨3, (some 14), none, .bin .lss (.t 11) (.t 13), []⟩]) (.ite (.t 14) .skip (.exit 0))) (.seq (.block 1 (.seq (.dops [⟨0, (some 17), none, .mov (.t 0), []⟩, ⟨1, (some 18), none, .mov (.t 5), []⟩, ⟨2, (some 19), none, .ixs 1 (.t 17) (.t 18), []⟩, ⟨3, (some 20), none, .ld (.t 19), []⟩, ⟨4, (some 21), none, .mov (.t 1), []⟩, ⟨5, (some 22), none, .mov (.t 5), []⟩, ⟨6, (some 23), none, .ixs 1 (.t 21) (.t 22), []⟩, ⟨7, (some 24), none, .ld (.t 23), []⟩, ⟨8, (some 25), none, .call (.c (.func (.func 19) #[] #[])) [.t 20, .t 24], []⟩, ⟨9, (some 26), none, .un .not (.t 25), []⟩]) (.ite (.t 26) (.seq (.ops [⟨0, (some 4), none, .mov (.c (.bool false)), []⟩]) .ret) .skip))) (.ops [⟨0, (some 15), none, .mov (.t 5), []⟩, ⟨1, (some 16), none, .bin .add (.t 15) (.c (.int .i64 1)), []⟩, ⟨2, (some 5), none, .mov (.t 16), []⟩])))))) (.seq (.ops [⟨0, (some 4), none, .mov (.c (.bool true)), []⟩]) .ret)))
attribute [irreducible] c_culletlaw16_same
theorem run_culletlaw16_same {args : List Value} {w : World} {K : Value → World → Prop} (hn : args.length ≤ 27) (h : WP Try.prog c_culletlaw16_same (endQ [.t 4] K) (initT args) w) : CallV Try.prog 22 args w K :=
  call_of follows Try.func22 (by kernel_rfl) (by kernel_rfl) hn h
def c_culletlaw16_sameInts : C := .seq (.ops [⟨0, (some 4), none, .mov (.c (.bool false)), []⟩]) (.seq (.seq (.ops [⟨0, (some 6), none, .mov (.t 0), []⟩, ⟨1, (some 7), none, .len (.t 6), []⟩, ⟨2, (some 8), none, .mov (.t 1), []⟩, ⟨3, (some 9), none, .len (.t 8), []⟩, ⟨4, (some 10), none, .bin .neq (.t 7) (.t 9), []⟩]) (.ite (.t 10) (.seq (.ops [⟨0, (some 4), none, .mov (.c (.bool false)), []⟩]) .ret) .skip)) (.seq (.seq (.ops [⟨0, (some 5), none, .mov (.c (.int .i64 0)), []⟩]) (.block 0 (.loop (.seq (.seq (.ops [⟨0, (some 11), none, .mov (.t 5), []⟩, ⟨1, (some 12), none, .mov (.t 0), []⟩, ⟨2, (some 13), none, .len (.t 12), []⟩, ⟨3, (some 14), none, .bin .lss (.t 11) (.t 13), []⟩]) (.ite (.t 14) .skip (.exit 0))) (.seq (.block 1 (.seq (.dops [⟨0, (some 17), none, .mov (.t 0), []⟩, ⟨1, (some 18), none, .mov (.t 5), []⟩, ⟨2, (some 19), none, .ixs 1 (.t 17) (.t 18), []⟩, ⟨3, (some 20), none, .ld (.t 19), []⟩, ⟨4, (some 21), none, .mov (.t 1), []⟩, ⟨5, (some 22), none, .mov (.t 5), []⟩, ⟨6, (some 23), none, .ixs 1 (.t 21) (.t 22), []⟩, ⟨7, (some 24), none, .ld (.t 23), []⟩, ⟨8, (some 25), none, .bin .neq (.t 20) (.t 24), []⟩]) (.ite (.t 25) (.seq (.ops [⟨0, (some 4), none, .mov (.c (.bool false)), []⟩]) .ret) .skip))) (.ops [⟨0, (some 15), none, .mov (.t 5), []⟩, ⟨1, (some 16), none, .bin .add (.t 15) (.c (.int .i64 1)), []⟩, ⟨2, (some 5), none, .mov (.t 16), []⟩])))))) (.seq (.ops [⟨0, (some 4), none, .mov (.c (.bool true)), []⟩]) .ret)))
attribute [irreducible] c_culletlaw16_sameInts
theorem run_culletlaw16_sameInts {args : List Value} {w : World} {K : Value → World → Prop} (hn : args.length ≤ 26) (h : WP Try.prog c_culletlaw16_sameInts (endQ [.t 4] K) (initT args) w) : CallV Try.prog 25 args w K :=
  call_of follows Try.func25 (by kernel_rfl) (by kernel_rfl) hn h
end Go.Proofs.Ytcbjabnnokjnpaa.Fw
namespace Go.Proofs.Ytcbjabnnokjnpaa.Fw
open Go Go.Fw
theorem zis_none {L : Nat → Nat} : ∀ {n : Nat}, (∀ j, j < n → L j ≠ 0) → zis L n = []
  | 0, _ => rfl
  | n + 1, h => by rw [zis_succ, if_neg (h n (by omega))]; exact zis_none fun j hj => h j (by omega)
/-- The first n elements of the rows of l each. -/
def jn (R : Nat → List (El 8)) (l n : Nat) : List (El 8) := (List.range n).map fun i => (co (R (i / l))).c (i % l)
theorem jn_len (R : Nat → List (El 8)) (l n : Nat) : (jn R l n).length = n := by simp [jn]
theorem jn_co (R : Nat → List (El 8)) (l n i : Nat) (hi : i < n) : (co (jn R l n)).c i = (co (R (i / l))).c (i % l) := by
  rw [co_get _ (by rw [jn_len]; exact hi)]
  simp [jn]
theorem jn_step {R : Nat → List (El 8)} {l n j : Nat} (hl : 1 ≤ l) (hR : (R j).length = l) : jn R l (min (j * l) n) ++ (R j).take (min l (n - min (j * l) n)) = jn R l (min ((j + 1) * l) n) := by
  have hj : (j + 1) * l = j * l + l := by rw [Nat.add_mul, Nat.one_mul]
  rw [hj]
  refine co_ext (by rw [List.length_append, jn_len, jn_len, List.length_take, hR]; omega) (Ps.ext fun i => ?_)
  rw [co_app, jn_len]
  by_cases h1 : i < min (j * l) n
  · rw [if_pos h1, jn_co _ _ _ _ h1, jn_co _ _ _ _ (by omega)]
  · rw [if_neg h1]
    by_cases h2 : i < min (j * l + l) n
    · rw [jn_co _ _ _ _ h2, co_takeL, if_pos (by omega)]
      have e1 : i / l = j := Nat.div_eq_of_lt_le (by omega) (by rw [hj]; omega)
      have e2 : i % l = i - min (j * l) n := by
        have := Nat.div_add_mod i l
        rw [e1, Nat.mul_comm] at this
        omega
      rw [e1, e2]
    · rw [co_dg (jn R l (min (j * l + l) n)) i (by rw [jn_len]; omega), co_takeL, if_neg (by omega)]
theorem jn_shd {D : List (El 8)} {k l : Nat} (hl : 1 ≤ l) (hn : D.length ≤ k * l) : jn (shd D k l) l D.length = D := by
  refine co_ext (jn_len _ _ _) (Ps.ext fun i => ?_)
  by_cases hi : i < D.length
  · have h1 : i / l < k := (Nat.div_lt_iff_lt_mul (by omega)).2 (by omega)
    have h2 := Nat.mod_lt i (show 0 < l by omega)
    have h3 : i / l * l + i % l = i := by rw [Nat.mul_comm]; exact Nat.div_add_mod i l
    rw [jn_co _ _ _ _ hi, shd_co _ _ _ _ _ h2, h3, if_pos ⟨h1, hi⟩]
  · rw [co_dg _ i (by rw [jn_len]; omega), co_dg D i (by omega)]
theorem jn_congr {R R' : Nat → List (El 8)} {k l n : Nat} (hl : 1 ≤ l) (hn : n ≤ k * l) (h : ∀ j, j < k → R j = R' j) : jn R l n = jn R' l n := by
  unfold jn
  refine List.map_congr_left fun i hi => ?_
  have h1 : i / l < k := (Nat.div_lt_iff_lt_mul (by omega)).2 (by have := List.mem_range.1 hi; omega)
  rw [h _ h1]
theorem hd_n {α : Type} [Cell α] {w : World} {x : Hd} {l : List α} (h : Sl w (Cell.v x) l) : x.n = l.length := h.hd.2
theorem shape_Join_spec (w : World) (f : Int) (k m n l : Nat) (s : Value) (hs : List Hd) (R : Nat → List (El 8)) (h : Sl w s hs) (hr : ∀ j (hj : j < hs.length), j < k → Sl w (Cell.v hs[j]) (R j)) (hR : ∀ j, j < k → (R j).length = l) (hlen : hs.length = k + m) (hp : prm f k m = 0) (hk : k ≤ 40) (hm : m ≤ 40) (hl : 1 ≤ l) (hl2 : l ≤ 66) (hf : f = 2 → l % 2 = 0) (hn : n ≤ k * l) (hn2 : n ≤ 64) :
    CallV Try.prog 18 [.int .i64 f, .int .i64 (k : Int), .int .i64 (m : Int), s, .int .i64 (n : Int)] w fun v w' => RowKit.Below w.heap.size w w' ∧ ∃ z, v = .tuple #[z, .int .i64 0] ∧ Ow w.heap.size w' z (jn R l n) := by
  obtain ⟨hk1, -, hm1, -⟩ := prm_ok hp
  have hle : k ≤ hs.length := by omega
  have hkl : k * l ≤ 40 * 66 := Nat.mul_le_mul hk hl2
  have hT : Sl w (Fw.sub s 0 k) (hs.take k) := by simpa using h.sub (Nat.zero_le _) hle
  have lT : (hs.take k).length = k := by rw [List.length_take]; omega
  have hL : ∀ j, j < k → hln (hs.take k) j = l := fun j hj => by
    rw [hln_get _ (by omega), List.getElem_take, hd_n (hr j (by omega) hj), hR j hj]
  refine run_shape_Join (by simp) ?_
  simp only [c_shape_Join, WS, List.getElem_cons_zero, List.getElem_cons_succ, Option.isNone_some, Option.isNone_none, List.getD_cons_zero, List.getD_cons_succ, I.at, atL, atO, atP, evp, evs, retV, ↓reduceIte, Nat.reduceEqDiff, reduceCtorEq]
  refine X_call0 ((shape_Params_spec w f k m).mono ?_)
  rintro _ w0 ⟨rfl, rfl⟩
  rw [hp]
  simp (maxSteps := 1000000) (disch := omega) only [WS, List.getElem_cons_zero, List.getElem_cons_succ, Option.isNone_some, Option.isNone_none, List.getD_cons_zero, List.getD_cons_succ, I.at, atL, atO, atP, evp, evs, retV, ↓reduceIte, Nat.reduceEqDiff, reduceCtorEq, AS, show decide ((0 : Int) = 0) = true from rfl, h.Xlen, h.XslcHi hle]
  refine X_call0 ((shape_lengths_spec w0 _ _ hT (by omega)).mono ?_)
  rintro _ w1 ⟨len, ev, z, rfl, hns, oz, hB⟩
  rw [lT] at hns oz
  have hlen1 : len = l := by
    by_cases h0 : len = 0
    · have := hns.z.1 h0 0 (by omega)
      rw [hL 0 (by omega)] at this
      omega
    · obtain ⟨j, hj, e⟩ := hns.m h0
      rw [hL j hj] at e; exact e.symm
  subst hlen1
  obtain rfl : ev = true := hns.e.2 fun j hj => Or.inr (hL j hj)
  rw [zis_none fun j hj => by rw [hL j hj]; omega] at oz
  have hod : oddB f len = false := by
    unfold oddB
    exact decide_eq_false fun e => by have := hf e.1; omega
  have B := hB
  have h := h.up hB
  have hT := hT.up hB
  have hr1 : ∀ j (hj : j < hs.length), j < k → Sl w1 (Cell.v hs[j]) (R j) := fun j hj hjk => (hr j hj hjk).up hB
  clear hB hr
  have hmul : IntKind.i64.wrap ((k : Int) * (len : Int)) = ((k * len : Nat) : Int) := w_mul _ _ (by omega)
  generalize hKL : k * len = KL at *
  simp (maxSteps := 1000000) (disch := omega) only [WS, List.getElem_cons_zero, List.getElem_cons_succ, Option.isNone_some, Option.isNone_none, List.getD_cons_zero, List.getD_cons_succ, I.at, atL, atO, atP, evp, evs, retV, ↓reduceIte, Nat.reduceEqDiff, reduceCtorEq, AS, oz.sl.Xlen, show (([] : List Int).length : Int) = 0 from rfl, show decide ((0 : Int) < 0) = false from rfl]
  refine X_call0 ((shape_odd_spec w1 f len).mono ?_)
  rintro _ w2 ⟨rfl, rfl⟩
  rw [hod]
  simp (maxSteps := 1000000) (disch := omega) only [WS, List.getElem_cons_zero, List.getElem_cons_succ, Option.isNone_some, Option.isNone_none, List.getD_cons_zero, List.getD_cons_succ, I.at, atL, atO, atP, evp, evs, retV, ↓reduceIte, Nat.reduceEqDiff, reduceCtorEq, AS, hmul]
  refine X_mks0 (x := (0 : El 8)) (by simp only [maxBytes]; omega) (by omega) fun q w3 oq C => ?_
  simp (maxSteps := 1000000) (disch := omega) only [WS, List.getElem_cons_zero, List.getElem_cons_succ, Option.isNone_some, Option.isNone_none, List.getD_cons_zero, List.getD_cons_succ, I.at, atL, atO, atP, evp, evs, retV, ↓reduceIte, Nat.reduceEqDiff, reduceCtorEq, AS, h.XslcHi hle, hT.Xlen, lT]
  have B2s := C.size
  refine loop_of (fun t w' => t 4 = .int .i64 (n : Int) ∧ t 63 = Fw.sub s 0 k ∧ t 64 = .int .i64 (k : Int) ∧ RowKit.Below w2.heap.size w2 w' ∧ ∃ (j : Nat) (q : Value), t 65 = .int .i64 (j : Int) ∧ j ≤ k ∧ t 16 = q ∧ Ow w2.heap.size w' q (jn R len (min (j * len) n)))
    (fun t _ => k - (toI (t 65)).toNat) ⟨by simp only [WS, List.getElem_cons_zero, List.getElem_cons_succ, Option.isNone_some, Option.isNone_none, List.getD_cons_zero, List.getD_cons_succ, I.at, atL, atO, atP, evp, evs, retV, ↓reduceIte, Nat.reduceEqDiff, reduceCtorEq], by simp only [WS, List.getElem_cons_zero, List.getElem_cons_succ, Option.isNone_some, Option.isNone_none, List.getD_cons_zero, List.getD_cons_succ, I.at, atL, atO, atP, evp, evs, retV, ↓reduceIte, Nat.reduceEqDiff, reduceCtorEq], by simp only [WS, List.getElem_cons_zero, List.getElem_cons_succ, Option.isNone_some, Option.isNone_none, List.getD_cons_zero, List.getD_cons_succ, I.at, atL, atO, atP, evp, evs, retV, ↓reduceIte, Nat.reduceEqDiff, reduceCtorEq], C, 0, q, rfl, by omega, by simp only [WS, List.getElem_cons_zero, List.getElem_cons_succ, Option.isNone_some, Option.isNone_none, List.getD_cons_zero, List.getD_cons_succ, I.at, atL, atO, atP, evp, evs, retV, ↓reduceIte, Nat.reduceEqDiff, reduceCtorEq], by simpa [jn] using oq⟩ ?_
  clear C oq
  rintro t w4 ⟨t4, t63, t64, C, j, q, t65, hj, t16, oq⟩
  by_cases hlt : j < k
  · have jT : j < (hs.take k).length := by omega
    have gj : (hs.take k)[j] = hs[j]'(by omega) := List.getElem_take ..
    have hrow := (hr1 j (by omega) hlt).up C
    have hRj := hR j hlt
    have lq := jn_len R len (min (j * len) n)
    have hmn : (if ((n - min (j * len) n : Nat) : Int) < (len : Int) then ((n - min (j * len) n : Nat) : Int) else (len : Int)) = ((min len (n - min (j * len) n) : Nat) : Int) := by split <;> omega
    have hle2 : min len (n - min (j * len) n) ≤ (R j).length := by omega
    simp (maxSteps := 1000000) (disch := omega) only [WS, List.getElem_cons_zero, List.getElem_cons_succ, Option.isNone_some, Option.isNone_none, List.getD_cons_zero, List.getD_cons_succ, I.at, atL, atO, atP, evp, evs, retV, ↓reduceIte, Nat.reduceEqDiff, reduceCtorEq, AS, t4, t63, t64, t65, t16, (hT.up C).Xix jT, (hT.up C).Xld jT, gj, oq.sl.Xlen, lq, hrow.Xlen, hRj, hmn, hrow.XslcHi hle2]
    have hsub : Sl w4 (Fw.sub (Cell.v (hs[j]'(by omega))) 0 (min len (n - min (j * len) n))) ((R j).take (min len (n - min (j * len) n))) := by simpa using hrow.sub (Nat.zero_le _) hle2
    refine oq.Xapp2 hsub C.size (by rw [lq, List.length_take]; simp only [maxBytes]; omega) (by rw [lq, List.length_take]; omega) fun q5 w5 oq5 hg => ?_
    rw [jn_step hl hRj] at oq5
    simp (maxSteps := 1000000) (disch := omega) only [WS, List.getElem_cons_zero, List.getElem_cons_succ, Option.isNone_some, Option.isNone_none, List.getD_cons_zero, List.getD_cons_succ, I.at, atL, atO, atP, evp, evs, retV, ↓reduceIte, Nat.reduceEqDiff, reduceCtorEq, AS, t4, t63, t64, t65, t16]
    exact ⟨⟨hg.below C C.size (fun b hb => (oq.blk b hb).1), j + 1, q5, rfl, by omega, rfl, oq5⟩, by omega⟩
  · obtain rfl : j = k := by omega
    rw [hKL, Nat.min_eq_right (by omega)] at oq
    simp (maxSteps := 1000000) (disch := omega) only [WS, List.getElem_cons_zero, List.getElem_cons_succ, Option.isNone_some, Option.isNone_none, List.getD_cons_zero, List.getD_cons_succ, I.at, atL, atO, atP, evp, evs, retV, ↓reduceIte, Nat.reduceEqDiff, reduceCtorEq, AS, t4, t63, t64, t65, t16]
    exact ⟨B.trans (C.mono B.size), q, rfl, oq.mono B.size⟩
theorem culletlaw16_same_spec (w : World) (s1 s2 : Value) (hs1 hs2 : List Hd) (R : Nat → List (El 8)) (h1 : Sl w s1 hs1) (h2 : Sl w s2 hs2) (hl : hs1.length = hs2.length) (hb : hs1.length ≤ 1000) (hr1 : ∀ j (hj : j < hs1.length), Sl w (Cell.v hs1[j]) (R j)) (hr2 : ∀ j (hj : j < hs2.length), Sl w (Cell.v hs2[j]) (R j)) (hR : ∀ j, j < hs1.length → (R j).length ≤ 1000) :
    CallV Try.prog 22 [s1, s2] w fun v w' => v = .bool true ∧ RowKit.Below w.heap.size w w' := by
  refine run_culletlaw16_same (by simp) ?_
  simp only [c_culletlaw16_same, WS, List.getElem_cons_zero, List.getElem_cons_succ, Option.isNone_some, Option.isNone_none, List.getD_cons_zero, List.getD_cons_succ, I.at, atL, atO, atP, evp, evs, retV, ↓reduceIte, Nat.reduceEqDiff, reduceCtorEq]
  simp (maxSteps := 1000000) (disch := omega) only [WS, List.getElem_cons_zero, List.getElem_cons_succ, Option.isNone_some, Option.isNone_none, List.getD_cons_zero, List.getD_cons_succ, I.at, atL, atO, atP, evp, evs, retV, ↓reduceIte, Nat.reduceEqDiff, reduceCtorEq, AS, h1.Xlen, h2.Xlen, hl, show ∀ e : Int, decide (e = e) = true from fun e => decide_eq_true rfl]
  refine loop_of (fun t w' => t 0 = s1 ∧ t 1 = s2 ∧ RowKit.Below w.heap.size w w' ∧ ∃ i : Nat, t 5 = .int .i64 (i : Int) ∧ i ≤ hs1.length) (fun t _ => hs1.length - (toI (t 5)).toNat) ⟨by simp only [WS, List.getElem_cons_zero, List.getElem_cons_succ, Option.isNone_some, Option.isNone_none, List.getD_cons_zero, List.getD_cons_succ, I.at, atL, atO, atP, evp, evs, retV, ↓reduceIte, Nat.reduceEqDiff, reduceCtorEq], by simp only [WS, List.getElem_cons_zero, List.getElem_cons_succ, Option.isNone_some, Option.isNone_none, List.getD_cons_zero, List.getD_cons_succ, I.at, atL, atO, atP, evp, evs, retV, ↓reduceIte, Nat.reduceEqDiff, reduceCtorEq], RowKit.Below.refl _ _, 0, rfl, by omega⟩ ?_
  rintro t w' ⟨t0, t1, B, i, t5, hi⟩
  by_cases hlt : i < hs1.length
  · have hlt2 : i < hs2.length := by omega
    have hRi := hR i hlt
    have g1 := (h1.up B).drew
    have g2 := (h2.up B).drew
    have r1 := ((hr1 i hlt).up B).drew
    have r2 := ((hr2 i hlt2).up B).drew
    simp (maxSteps := 1000000) (disch := omega) only [WS, List.getElem_cons_zero, List.getElem_cons_succ, Option.isNone_some, Option.isNone_none, List.getD_cons_zero, List.getD_cons_succ, I.at, atL, atO, atP, evp, evs, retV, ↓reduceIte, Nat.reduceEqDiff, reduceCtorEq, AS, t0, t1, t5, (h1.up B).Xlen]
    refine WP_dops ?_
    simp (maxSteps := 1000000) (disch := omega) only [ES, List.mem_cons, List.not_mem_nil, implies_true, forall_const, WS, List.getElem_cons_zero, List.getElem_cons_succ, Option.isNone_some, Option.isNone_none, List.getD_cons_zero, List.getD_cons_succ, I.at, atL, atO, atP, evp, evs, retV, ↓reduceIte, Nat.reduceEqDiff, reduceCtorEq, AS, t0, t1, t5, g1.Eix hlt, g1.Eld hlt, g2.Eix hlt2, g2.Eld hlt2]
    refine E_call0 ((culletlaw16_sameBytes_spec w'.drew _ _ _ _ r1 r2 (by omega) (by omega)).mono ?_)
    rintro _ w2 ⟨rfl, hL⟩
    rw [decide_eq_true rfl]
    have hB : RowKit.Below w'.heap.size w' w2 := ((Like.drew w').trans hL).1
    simp (maxSteps := 1000000) (disch := omega) only [ES, List.mem_cons, List.not_mem_nil, implies_true, forall_const, WS, List.getElem_cons_zero, List.getElem_cons_succ, Option.isNone_some, Option.isNone_none, List.getD_cons_zero, List.getD_cons_succ, I.at, atL, atO, atP, evp, evs, retV, ↓reduceIte, Nat.reduceEqDiff, reduceCtorEq, AS, t0, t1, t5]
    exact ⟨⟨B.trans (hB.mono B.size), i + 1, rfl, by omega⟩, by omega⟩
  · obtain rfl : i = hs1.length := by omega
    simp (maxSteps := 1000000) (disch := omega) only [WS, List.getElem_cons_zero, List.getElem_cons_succ, Option.isNone_some, Option.isNone_none, List.getD_cons_zero, List.getD_cons_succ, I.at, atL, atO, atP, evp, evs, retV, ↓reduceIte, Nat.reduceEqDiff, reduceCtorEq, AS, t0, t1, t5, (h1.up B).Xlen]
    exact B
theorem culletlaw16_sameInts_spec (w : World) (s1 s2 : Value) (l : List Int) (h1 : Sl w s1 l) (h2 : Sl w s2 l) (hb : l.length ≤ 1000) :
    CallV Try.prog 25 [s1, s2] w fun v w' => v = .bool true ∧ RowKit.Below w.heap.size w w' := by
  refine run_culletlaw16_sameInts (by simp) ?_
  simp only [c_culletlaw16_sameInts, WS, List.getElem_cons_zero, List.getElem_cons_succ, Option.isNone_some, Option.isNone_none, List.getD_cons_zero, List.getD_cons_succ, I.at, atL, atO, atP, evp, evs, retV, ↓reduceIte, Nat.reduceEqDiff, reduceCtorEq]
  simp (maxSteps := 1000000) (disch := omega) only [WS, List.getElem_cons_zero, List.getElem_cons_succ, Option.isNone_some, Option.isNone_none, List.getD_cons_zero, List.getD_cons_succ, I.at, atL, atO, atP, evp, evs, retV, ↓reduceIte, Nat.reduceEqDiff, reduceCtorEq, AS, h1.Xlen, h2.Xlen, show ∀ e : Int, decide (e = e) = true from fun e => decide_eq_true rfl]
  refine loop_of (fun t w' => t 0 = s1 ∧ t 1 = s2 ∧ RowKit.Below w.heap.size w w' ∧ ∃ i : Nat, t 5 = .int .i64 (i : Int) ∧ i ≤ l.length) (fun t _ => l.length - (toI (t 5)).toNat) ⟨by simp only [WS, List.getElem_cons_zero, List.getElem_cons_succ, Option.isNone_some, Option.isNone_none, List.getD_cons_zero, List.getD_cons_succ, I.at, atL, atO, atP, evp, evs, retV, ↓reduceIte, Nat.reduceEqDiff, reduceCtorEq], by simp only [WS, List.getElem_cons_zero, List.getElem_cons_succ, Option.isNone_some, Option.isNone_none, List.getD_cons_zero, List.getD_cons_succ, I.at, atL, atO, atP, evp, evs, retV, ↓reduceIte, Nat.reduceEqDiff, reduceCtorEq], RowKit.Below.refl _ _, 0, rfl, by omega⟩ ?_
  rintro t w' ⟨t0, t1, B, i, t5, hi⟩
  by_cases hlt : i < l.length
  · have g1 := (h1.up B).drew
    have g2 := (h2.up B).drew
    have hB := bel_drew w'
    simp (maxSteps := 1000000) (disch := omega) only [WS, List.getElem_cons_zero, List.getElem_cons_succ, Option.isNone_some, Option.isNone_none, List.getD_cons_zero, List.getD_cons_succ, I.at, atL, atO, atP, evp, evs, retV, ↓reduceIte, Nat.reduceEqDiff, reduceCtorEq, AS, t0, t1, t5, (h1.up B).Xlen]
    refine WP_dops ?_
    simp (maxSteps := 1000000) (disch := omega) only [ES, List.mem_cons, List.not_mem_nil, implies_true, forall_const, WS, List.getElem_cons_zero, List.getElem_cons_succ, Option.isNone_some, Option.isNone_none, List.getD_cons_zero, List.getD_cons_succ, I.at, atL, atO, atP, evp, evs, retV, ↓reduceIte, Nat.reduceEqDiff, reduceCtorEq, AS, t0, t1, t5, g1.Eix hlt, g1.Eld hlt, g2.Eix hlt, g2.Eld hlt, cell_int, show ∀ e : Int, decide (e = e) = true from fun e => decide_eq_true rfl]
    exact ⟨⟨B.trans (hB.mono B.size), i + 1, rfl, by omega⟩, by omega⟩
  · obtain rfl : i = l.length := by omega
    simp (maxSteps := 1000000) (disch := omega) only [WS, List.getElem_cons_zero, List.getElem_cons_succ, Option.isNone_some, Option.isNone_none, List.getD_cons_zero, List.getD_cons_succ, I.at, atL, atO, atP, evp, evs, retV, ↓reduceIte, Nat.reduceEqDiff, reduceCtorEq, AS, t0, t1, t5, (h1.up B).Xlen]
    exact B
end Go.Proofs.Ytcbjabnnokjnpaa.Fw
