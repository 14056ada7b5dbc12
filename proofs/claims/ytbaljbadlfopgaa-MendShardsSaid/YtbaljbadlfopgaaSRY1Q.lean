import Derived.Test.YtbaljbadlfopgaaSRX3Q
import Derived.Test.YtbaljbadlfopgaaProg
import Derived.Test.YtbaljbadlfopgaaFwTQ
import Derived.Test.YtbaljbadlfopgaaSMlawQ
import Derived.Test.YtbaljbadlfopgaaSMawkQ
set_option linter.all false
/- A near polynomial as a quotient of two whose coefficients solve linear equations. -/
set_option linter.unusedVariables false
set_option linter.unusedSimpArgs false
set_option linter.unusedSectionVars false
namespace Go.Fw
open Go
section
variable {n : Nat} [F : Fd n]
def epw (x : El n) : Nat → El n
  | 0 => 1
  | j + 1 => epw x j * x
theorem gsum_front (f : Nat → El n) : ∀ k, gsum (k + 1) f = f 0 + gsum k fun i => f (i + 1)
  | 0 => by show (0 : El n) + f 0 = f 0 + 0; rw [El.zero_add, El.add_zero]
  | k + 1 => by
    show gsum (k + 1) f + f (k + 1) = f 0 + (gsum k (fun i => f (i + 1)) + f (k + 1))
    rw [gsum_front f k, El.add_assoc]
theorem gsum_append (f : Nat → El n) (a : Nat) : ∀ b, gsum (a + b) f = gsum a f + gsum b fun i => f (a + i)
  | 0 => (El.add_zero _).symm
  | b + 1 => by
    show gsum (a + b) f + f (a + b) = gsum a f + (gsum b (fun i => f (a + i)) + f (a + b))
    rw [gsum_append f a b, El.add_assoc]
theorem evn_gsum (x : El n) : ∀ (d : Nat) (f : Ps n), evn f x d = gsum d fun c => epw x c * f.c c
  | 0, _ => rfl
  | d + 1, f => by
    show f.c 0 + x * evn f.sh x d = _
    rw [gsum_front, evn_gsum x d f.sh, ← gsum_mul]
    show f.c 0 + _ = (1 : El n) * f.c 0 + _
    rw [El.one_mul]
    congr 1
    refine gsum_congr fun i _ => ?_
    show x * (epw x i * f.c (i + 1)) = epw x i * x * f.c (i + 1)
    rw [← El.mul_assoc, El.mul_comm x]
/-- One equation: the first a unknowns are the one polynomial's coefficients, the rest the other's. -/
def rowB (x y : El n) (a c : Nat) : El n := if c < a then epw x c else epw x (c - a) * y
theorem dot_rowB (x y : El n) (a b : Nat) (v : Nat → El n) : dot (a + b) (rowB x y a) v = evn ⟨v⟩ x a + y * evn ⟨fun j => v (a + j)⟩ x b := by
  unfold dot
  rw [gsum_append, evn_gsum, evn_gsum, ← gsum_mul]
  congr 1
  · exact gsum_congr fun c hc => by unfold rowB; rw [if_pos hc]
  · refine gsum_congr fun c _ => ?_
    unfold rowB
    rw [if_neg (by omega), Nat.add_sub_cancel_left, El.mul_comm (epw x c) y, El.mul_assoc]
theorem filter_two (p : Nat → Bool) : ∀ l : List Nat, (l.filter p).length + (l.filter fun x => !p x).length = l.length
  | [] => rfl
  | a :: l => by
    have ih := filter_two p l
    simp only [List.filter_cons]
    cases p a <;> simp <;> omega
theorem bw_ex {X Y : Nat → El n} {N k r : Nat} {g : List (El n)} (hg : g.length ≤ k) (ho : (offs g X Y N).length ≤ r) :
    ∃ v : Nat → El n, (∀ i, i < N → dot (k + r + (r + 1)) (rowB (X i) (Y i) (k + r)) v = 0) ∧ ∃ c, c < k + r + (r + 1) ∧ v c ≠ 0 := by
  obtain ⟨E, hE⟩ : ∃ E, E = vps ((offs g X Y N).map X) := ⟨_, rfl⟩
  have hl : ((offs g X Y N).map X).length = (offs g X Y N).length := List.length_map ..
  have dE : Dg E ((offs g X Y N).length + 1) := by rw [hE, ← hl]; exact vps_dg _
  have dE' : Dg E (r + 1) := dE.mono (by omega)
  have dN : Dg (co g * E) (k + r) := (((co_dg g).mono hg).mul dE').mono (by omega)
  obtain ⟨v, hv⟩ : ∃ v : Nat → El n, v = fun c => if c < k + r then (co g * E).c c else E.c (c - (k + r)) := ⟨_, rfl⟩
  refine ⟨v, fun i hi => ?_, k + r + (offs g X Y N).length, by omega, ?_⟩
  · rw [dot_rowB]
    have e1 : evn (⟨v⟩ : Ps n) (X i) (k + r) = evn (co g * E) (X i) (k + r) := by
      rw [evn_gsum, evn_gsum]
      exact gsum_congr fun c hc => by rw [hv]; show epw (X i) c * (if c < k + r then _ else _) = _; rw [if_pos hc]
    have e2 : evn (⟨fun j => v (k + r + j)⟩ : Ps n) (X i) (r + 1) = evn E (X i) (r + 1) := by
      rw [evn_gsum, evn_gsum]
      refine gsum_congr fun c hc => ?_
      rw [hv]
      show epw (X i) c * (if k + r + c < k + r then _ else E.c (k + r + c - (k + r))) = _
      rw [if_neg (by omega), Nat.add_sub_cancel_left]
    rw [e1, e2, ← evn_eq (((co_dg g).mono hg).mul dE') dN]
    have e3 : evn (co g * E) (X i) (k + (r + 1)) = evn (co g) (X i) k * evn E (X i) (r + 1) := evn_mul (X i) ((co_dg g).mono hg) dE'
    rw [evn_eq (((co_dg g).mono hg).mul dE') ((((co_dg g).mono hg).mul dE').mono (show k + (r + 1) - 1 ≤ k + (r + 1) by omega)), e3]
    have e4 : evn (co g) (X i) k = evl g (X i) := by rw [evl_co]; exact evn_eq ((co_dg g).mono hg) (co_dg g)
    rw [e4, ← El.add_mul]
    by_cases h : evl g (X i) = Y i
    · rw [h, El.add_self, El.zero_mul]
    · have hm : X i ∈ (offs g X Y N).map X := List.mem_map.2 ⟨i, offs_mem.2 ⟨hi, h⟩, rfl⟩
      have := (ev_vps_zero (X i) ((offs g X Y N).map X)).2 hm
      rw [hl, ← hE] at this
      rw [evn_eq dE' dE, this, El.mul_zero]
  · rw [hv]
    show (if k + r + (offs g X Y N).length < k + r then _ else E.c (k + r + (offs g X Y N).length - (k + r))) ≠ 0
    rw [if_neg (by omega), Nat.add_sub_cancel_left, hE, ← hl, vps_top]
    exact El.one_ne
theorem bw_div {X Y : Nat → El n} {N k r : Nat} (hX : ∀ a b, a < N → b < N → X a = X b → a = b) {g : List (El n)} (hg : g.length ≤ k) (ho : (offs g X Y N).length ≤ r) (hN : k + 2 * r ≤ N) {v : Nat → El n} (hv : ∀ i, i < N → dot (k + r + (r + 1)) (rowB (X i) (Y i) (k + r)) v = 0)
    {one other : List (El n)} (l1 : one.length = k + r) (h1 : ∀ c, c < k + r → (co one).c c = v c) (l2 : other.length = r + 1) (h2 : ∀ c, c < r + 1 → (co other).c c = v (k + r + c)) : co one = co g * co other := by
  have d1 : Dg (co one) (k + r) := l1 ▸ co_dg one
  have d2 : Dg (co other) (r + 1) := l2 ▸ co_dg other
  have dg' : Dg (co g * co other) (k + r) := (((co_dg g).mono hg).mul d2).mono (by omega)
  have hroot : ∀ i, i < N → evl g (X i) = Y i → evn (co one + co g * co other) (X i) (k + r) = 0 := fun i hi he => by
    have h := hv i hi
    rw [dot_rowB] at h
    have e1 : evn (⟨v⟩ : Ps n) (X i) (k + r) = evn (co one) (X i) (k + r) := by
      rw [evn_gsum, evn_gsum]
      exact gsum_congr fun c hc => by rw [h1 c hc]
    have e2 : evn (⟨fun j => v (k + r + j)⟩ : Ps n) (X i) (r + 1) = evn (co other) (X i) (r + 1) := by
      rw [evn_gsum, evn_gsum]
      exact gsum_congr fun c hc => by rw [h2 c hc]
    rw [e1, e2, ← he] at h
    have e3 : evn (co g * co other) (X i) (k + (r + 1)) = evn (co g) (X i) k * evn (co other) (X i) (r + 1) := evn_mul (X i) ((co_dg g).mono hg) d2
    have e4 : evn (co g) (X i) k = evl g (X i) := by rw [evl_co]; exact evn_eq ((co_dg g).mono hg) (co_dg g)
    rw [evn_add, evn_eq dg' (dg'.mono (show k + r ≤ k + (r + 1) by omega)), e3, e4]
    exact h
  obtain ⟨L, hL⟩ : ∃ L, L = (List.range N).filter fun j => decide (evl g (X j) = Y j) := ⟨_, rfl⟩
  have hLl : k + r ≤ L.length := by
    have : L.length + (offs g X Y N).length = N := by
      rw [hL]
      unfold offs
      have := filter_two (fun j => decide (evl g (X j) = Y j)) (List.range N)
      rw [List.length_range] at this
      exact this
    omega
  have hmem : ∀ j, j ∈ L → j < N ∧ evl g (X j) = Y j := fun j hj => by
    rw [hL, List.mem_filter, List.mem_range] at hj
    simpa using hj
  have hnd : (L.map X).Nodup := by
    have h0 : L.Pairwise (· < ·) := by rw [hL]; exact List.Pairwise.filter _ List.pairwise_lt_range
    unfold List.Nodup
    rw [List.pairwise_map]
    refine List.Pairwise.imp_of_mem (R := (· < ·)) (fun {a b} ha hb hab e => ?_) h0
    have := hX a b (hmem a ha).1 (hmem b hb).1 e
    omega
  have dS : Dg (co one + co g * co other) (k + r) := d1.add dg'
  have h4 : co (ofc (k + r) (co one + co g * co other)) = co one + co g * co other := ofc_co dS
  have h5 := roots_zero (L.map X) (ofc (k + r) (co one + co g * co other)) hnd (by rw [ofc_len, List.length_map]; exact hLl) fun z hz => by
    obtain ⟨j, hj, rfl⟩ := List.mem_map.1 hz
    obtain ⟨ha, hb⟩ := hmem j hj
    rw [evl_co, h4, ofc_len]
    exact hroot j ha hb
  rw [h4] at h5
  exact Ps.eq_of_add h5
end
end Go.Fw

set_option linter.unusedVariables false
set_option linter.unusedSimpArgs false
set_option maxRecDepth 100000
set_option maxHeartbeats 1000000
namespace Go.Proofs.Ytbaljbadlfopgaa.Fw
open Go Go.Fw Go.Proofs
attribute [local irreducible] stepI
end Go.Proofs.Ytbaljbadlfopgaa.Fw
namespace Go.Proofs.Ytbaljbadlfopgaa.Fw
open Go Go.Fw
theorem frmB (w : World) : Frm (fun w' => RowKit.Below w.heap.size w w') (fun b => w.heap.size ≤ b) :=
  ⟨fun w1 w2 b h hb hg => h.grown hg h.size fun c hc => by cases hc; exact hb, fun w1 w2 h hB => h.trans (hB.mono h.size)⟩
theorem hln_le {hs : List Hd} {b : Nat} (h : ∀ j, j < hs.length → hln hs j ≤ b) : ∀ j, hln hs j ≤ b := fun j => by
  by_cases hj : j < hs.length
  · exact h j hj
  · unfold hln
    rw [List.getD_eq_getElem?_getD, List.getElem?_eq_none (by omega)]
    exact Nat.zero_le _
theorem mok_prm {f k m : Int} {L : Nat → Nat} {n len : Nat} (h : MOk f k m L n len) : (f = 0 ∨ f = 1) ∧ 1 ≤ k ∧ 1 ≤ m ∧ k ≤ 256 ∧ m ≤ 256 ∧ k + m ≤ 256 := ⟨h.hf, h.hk, h.hm, by have := h.hm; have := h.km; omega, by have := h.hk; have := h.km; omega, h.km⟩
end Go.Proofs.Ytbaljbadlfopgaa.Fw

set_option linter.unusedVariables false
set_option linter.unusedSimpArgs false
set_option maxRecDepth 100000
set_option maxHeartbeats 1000000
namespace Go.Proofs.Ytbaljbadlfopgaa.Fw
open Go Go.Fw Go.Proofs
attribute [local irreducible] stepI
end Go.Proofs.Ytbaljbadlfopgaa.Fw
namespace Go.Proofs.Ytbaljbadlfopgaa.Fw
open Go Go.Fw
theorem frmB_D {w : World} {Tm : Nat → List (El 8)} {v : Value} {hs : List Hd} {R : Nat → List (El 8)} {w' : World} {F : World → Prop} (h : ShM w.heap.size F Tm v hs R w') : ∀ j (hj : j < hs.length) b, R j ≠ [] → Fw.blk (Cell.v hs[j]) = some b → w.heap.size ≤ b := fun j hj b hn hb => by
  obtain ⟨c, hc, hc1, -⟩ := (h.row j hj hn).blk
  rw [hc] at hb; cases hb; exact hc1
theorem ne_of_len {l : List (El 8)} {n : Nat} (h : l.length = n) (hn : 0 < n) : l ≠ [] := fun e => by rw [e] at h; simp at h; omega
end Go.Proofs.Ytbaljbadlfopgaa.Fw

set_option linter.unusedVariables false
set_option linter.unusedSimpArgs false
set_option maxRecDepth 100000
set_option maxHeartbeats 1000000
namespace Go.Proofs.Ytbaljbadlfopgaa.Fw
open Go Go.Fw Go.Proofs
attribute [local irreducible] stepI
def c_culletref19_wide : C := .seq (.ops [⟨0,some 4,none,.mov (.c (.slice none 0 0)),[]⟩,⟨1,some 5,none,.mov (.c (.slice none 0 0)),[]⟩]) (.seq (.ops [⟨0,some 9,none,.mov (.t 0),[]⟩,⟨1,some 10,none,.len (.t 9),[]⟩,⟨2,some 11,none,.mks 73 2 [.int .u16 0] (.t 10) (.t 10),[]⟩,⟨3,some 6,none,.mov (.t 11),[]⟩]) (.seq (.ops [⟨0,some 12,none,.mov (.t 1),[]⟩,⟨1,some 13,none,.len (.t 12),[]⟩,⟨2,some 14,none,.mks 73 2 [.int .u16 0] (.t 13) (.t 13),[]⟩,⟨3,some 7,none,.mov (.t 14),[]⟩]) (.seq (.seq (.ops [⟨0,some 8,none,.mov (.c (.int .i64 0)),[]⟩]) (.block 0 (.loop (.seq (.seq (.ops [⟨0,some 15,none,.mov (.t 8),[]⟩,⟨1,some 16,none,.mov (.t 0),[]⟩,⟨2,some 17,none,.len (.t 16),[]⟩,⟨3,some 18,none,.bin .lss (.t 15) (.t 17),[]⟩]) (.ite (.t 18) .skip (.exit 0))) (.seq (.block 1 (.seq (.ops [⟨0,some 21,none,.mov (.t 6),[]⟩,⟨1,some 22,none,.mov (.t 8),[]⟩,⟨2,some 23,none,.mov (.t 0),[]⟩,⟨3,some 24,none,.mov (.t 8),[]⟩,⟨4,some 25,none,.ixs 1 (.t 23) (.t 24),[]⟩,⟨5,some 26,none,.ld (.t 25),[]⟩,⟨6,some 27,none,.cnv .u16 (.t 26),[]⟩,⟨7,some 28,none,.ixs 1 (.t 21) (.t 22),[]⟩,⟨8,none,none,.st (.t 28) (.t 27),[]⟩]) (.ops [⟨0,some 29,none,.mov (.t 7),[]⟩,⟨1,some 30,none,.mov (.t 8),[]⟩,⟨2,some 31,none,.mov (.t 1),[]⟩,⟨3,some 32,none,.mov (.t 8),[]⟩,⟨4,some 33,none,.ixs 1 (.t 31) (.t 32),[]⟩,⟨5,some 34,none,.ld (.t 33),[]⟩,⟨6,some 35,none,.cnv .u16 (.t 34),[]⟩,⟨7,some 36,none,.ixs 1 (.t 29) (.t 30),[]⟩,⟨8,none,none,.st (.t 36) (.t 35),[]⟩]))) (.ops [⟨0,some 19,none,.mov (.t 8),[]⟩,⟨1,some 20,none,.bin .add (.t 19) (.c (.int .i64 1)),[]⟩,⟨2,some 8,none,.mov (.t 20),[]⟩])))))) (.seq (.ops [⟨0,some 37,none,.mov (.t 6),[]⟩,⟨1,some 38,none,.mov (.t 7),[]⟩,⟨2,some 4,none,.mov (.t 37),[]⟩,⟨3,some 5,none,.mov (.t 38),[]⟩]) .ret))))
attribute [irreducible] c_culletref19_wide
theorem run_culletref19_wide {args : List Value} {w : World} {K : Value → World → Prop} (hn : args.length ≤ 39) (h : WP Try.prog c_culletref19_wide (endQ [.t 4, .t 5] K) (initT args) w) : CallV Try.prog 80 args w K :=
  call_of follows Try.func80 (by kernel_rfl) (by kernel_rfl) hn h
def c_culletref19_value : C := .seq (.ops [⟨0,some 4,none,.mov (.c (.int .u8 0)),[]⟩]) (.seq (.ops [⟨0,some 5,none,.mov (.t 0),[]⟩,⟨1,some 6,none,.mov (.t 1),[]⟩,⟨2,some 7,none,.cnv .u16 (.t 6),[]⟩,⟨3,some 8,none,.call (.c (.func (.func 121) #[] #[])) [.c (.bool false),.t 5,.t 7],[]⟩,⟨4,some 9,none,.cnv .u8 (.t 8),[]⟩,⟨5,some 4,none,.mov (.t 9),[]⟩]) .ret)
attribute [irreducible] c_culletref19_value
theorem run_culletref19_value {args : List Value} {w : World} {K : Value → World → Prop} (hn : args.length ≤ 10) (h : WP Try.prog c_culletref19_value (endQ [.t 4] K) (initT args) w) : CallV Try.prog 83 args w K :=
  call_of follows Try.func83 (by kernel_rfl) (by kernel_rfl) hn h
end Go.Proofs.Ytbaljbadlfopgaa.Fw
namespace Go.Proofs.Ytbaljbadlfopgaa.Fw
open Go Go.Fw
theorem culletref19_wide_spec (w : World) (s1 s2 : Value) (P : List Int) (Y : List (El 8)) (h1 : Sl w s1 P) (h2 : Sl w s2 Y) (hP : P.length ≤ 256) (hY : Y.length = P.length) (ha : asc P P.length) :
    CallV Try.prog 80 [s1, s2] w fun v w' => RowKit.Below w.heap.size w w' ∧ ∃ (sx sy : Value), v = .tuple #[sx, sy] ∧ Ow w.heap.size w' sx ((xsP P).map em8) ∧ Ow w.heap.size w' sy (Y.map em8) := by
  refine run_culletref19_wide (by simp) ?_
  simp only [c_culletref19_wide, WS, ↓reduceIte, Nat.reduceEqDiff, reduceCtorEq, h1.Xlen]
  refine X_mks (x := (0 : El 16)) (n := P.length) (by simp only [maxBytes]; omega) (by omega) fun sx w1 ox hB1 => ?_
  have gx := Seg.of ox
  simp (maxSteps := 1000000) (disch := omega) only [WS, ↓reduceIte, Nat.reduceEqDiff, reduceCtorEq, AS, (h2.up hB1).Xlen]
  refine X_mks (x := (0 : El 16)) (n := Y.length) (by simp only [maxBytes]; omega) (by omega) fun sy w2 oy hB2 => ?_
  have gy := Seg.of oy
  have gx := gx.up hB2
  have z1 := hB1.size
  have z2 := hB2.size
  have B2 := hB1.trans (hB2.mono z1)
  clear ox oy hB1 hB2
  simp (maxSteps := 1000000) (disch := omega) only [WS, ↓reduceIte, Nat.reduceEqDiff, reduceCtorEq, AS]
  refine loop_of (fun t w' => t 0 = s1 ∧ t 1 = s2 ∧ t 6 = sx ∧ t 7 = sy ∧ RowKit.Below w.heap.size w w' ∧ ∃ (i : Nat) (XL YL : List (El 16)), t 8 = .int .i64 (i : Int) ∧ i ≤ P.length ∧ XL.length = P.length ∧ YL.length = P.length ∧ (∀ j (hj : j < XL.length), j < i → XL[j] = em8 (nth (xsP P) j)) ∧ (∀ j (hj : j < YL.length), j < i → YL[j] = em8 (nth Y j)) ∧ Seg w.heap.size w1.heap.size w' sx XL ∧ Seg w1.heap.size w2.heap.size w' sy YL) (fun t _ => P.length - (toI (t 8)).toNat)
    ⟨by simp only [WS, ↓reduceIte, Nat.reduceEqDiff, reduceCtorEq], by simp only [WS, ↓reduceIte, Nat.reduceEqDiff, reduceCtorEq], by simp only [WS, ↓reduceIte, Nat.reduceEqDiff, reduceCtorEq], by simp only [WS, ↓reduceIte, Nat.reduceEqDiff, reduceCtorEq], B2, 0, _, _, by simp only [WS, ↓reduceIte, Nat.reduceEqDiff, reduceCtorEq]; rfl, by omega, List.length_replicate .., by rw [List.length_replicate, hY], fun j hj h => absurd h (Nat.not_lt_zero _), fun j hj h => absurd h (Nat.not_lt_zero _), gx, gy⟩ ?_
  clear B2 gx gy
  rintro t w3 ⟨t0, t1, t6, t7, B, i, XL, YL, t8, hi, lX, lY, hX, hYL, gx, gy⟩
  have h1' := h1.up B
  have h2' := h2.up B
  by_cases hil : i < P.length
  rotate_left
  · obtain rfl : i = P.length := by omega
    simp (maxSteps := 1000000) (disch := omega) only [WS, ↓reduceIte, Nat.reduceEqDiff, reduceCtorEq, AS, t0, t1, t6, t7, t8, h1'.Xlen]
    have e1 : XL = (xsP P).map em8 := List.ext_getElem (by rw [lX, List.length_map, xsP_len]) fun j a1 a2 => by
      rw [hX j a1 (by omega), List.getElem_map, nth_get (by rw [xsP_len]; omega)]
    have e2 : YL = Y.map em8 := List.ext_getElem (by rw [lY, List.length_map, hY]) fun j a1 a2 => by
      rw [hYL j a1 (by omega), List.getElem_map, nth_get (by omega)]
    rw [← e1, ← e2]
    exact ⟨B, sx, sy, rfl, gx.own, gy.own.mono z1⟩
  obtain ⟨q1, q2, -⟩ := ha i hil hil
  obtain ⟨n, hn⟩ : ∃ n : Nat, P[i] = (n : Int) := ⟨P[i].toNat, by omega⟩
  have hxi : nth (xsP P) i = en8 n := by
    rw [nth_get (by rw [xsP_len]; exact hil), xsP_get P (by rw [xsP_len]; exact hil) hil, hn]; rfl
  have u1 : IntKind.u16.wrap ((n : Nat) : Int) = ((em8 (en8 n)).v.toNat : Int) := by rw [wrap_u16 _ (by omega), em8_nat, en8_v (by omega)]
  have iY : i < Y.length := by omega
  have hb := Y[i].v.isLt
  have u2 : IntKind.u16.wrap ((Y[i].v.toNat : Nat) : Int) = ((em8 Y[i]).v.toNat : Int) := by rw [wrap_u16 _ (by omega), em8_nat]
  have iX : i < XL.length := by omega
  have iYL : i < YL.length := by omega
  simp (maxSteps := 1000000) (disch := omega) only [WS, ↓reduceIte, Nat.reduceEqDiff, reduceCtorEq, AS, t0, t1, t6, t7, t8, h1'.Xlen, h1'.Xix hil, h1'.Xld hil, cell_int, hn, u1, gx.sl.Xix iX]
  refine gx.Xst iX (em8 (en8 n)) fun w4 c gx2 hg q3 q4 => ?_
  have gy := gy.grown hg (Or.inl q4)
  have B := B.grown hg B.size fun x hx => by cases hx; exact q3
  have h2' := h2.up B
  simp (maxSteps := 1000000) (disch := omega) only [WS, ↓reduceIte, Nat.reduceEqDiff, reduceCtorEq, AS, t0, t1, t6, t7, t8, h2'.Xix iY, h2'.Xld iY, cell_e8, u2, gy.sl.Xix iYL]
  refine gy.Xst iYL (em8 Y[i]) fun w5 c2 gy2 hg2 q5 q6 => ?_
  have gx2 := gx2.grown hg2 (Or.inr q5)
  have B := B.grown hg2 B.size fun x hx => by cases hx; omega
  simp (maxSteps := 1000000) (disch := omega) only [WS, ↓reduceIte, Nat.reduceEqDiff, reduceCtorEq, AS, t0, t1, t6, t7, t8]
  refine ⟨⟨B, i + 1, _, _, rfl, by omega, by rw [List.length_set]; exact lX, by rw [List.length_set]; exact lY, fun j hj hji => ?_, fun j hj hji => ?_, gx2, gy2⟩, by omega⟩
  · rw [List.getElem_set]
    split
    · rename_i e; subst e; rw [hxi]
    · exact hX j (by rw [List.length_set] at hj; exact hj) (by omega)
  · rw [List.getElem_set]
    split
    · rename_i e; subst e; rw [nth_get iY]
    · exact hYL j (by rw [List.length_set] at hj; exact hj) (by omega)
theorem culletref19_value_spec (w : World) (s : Value) (l : List (El 8)) (x : Nat) (hx : x < 256) (h : Sl w s (l.map em8)) (hb : l.length ≤ 70368744175616) : CallV Try.prog 83 [s, .int .i64 (x : Int)] w fun v w' => v = .int .u8 ((evl l (en8 x)).v.toNat : Int) ∧ w' = w := by
  refine run_culletref19_value (by simp) ?_
  simp only [c_culletref19_value, WS, ↓reduceIte, Nat.reduceEqDiff, reduceCtorEq]
  have u1 : IntKind.u16.wrap ((x : Nat) : Int) = ((em8 (en8 x)).v.toNat : Int) := by rw [wrap_u16 _ (by omega), em8_nat, en8_v hx]
  simp (maxSteps := 1000000) (disch := omega) only [WS, ↓reduceIte, Nat.reduceEqDiff, reduceCtorEq, AS, u1]
  refine X_call0 ((culletref04_Eval_b_spec w s l (en8 x) h hb).mono ?_)
  rintro _ w1 ⟨rfl, rfl⟩
  have hlt := (evl l (en8 x)).v.isLt
  have u2 : IntKind.u8.wrap (((em8 (evl l (en8 x))).v.toNat : Nat) : Int) = ((evl l (en8 x)).v.toNat : Int) := by rw [em8_nat, wrap_u8 _ (by omega)]
  simp (maxSteps := 1000000) (disch := omega) only [WS, ↓reduceIte, Nat.reduceEqDiff, reduceCtorEq, AS, u2]
end Go.Proofs.Ytbaljbadlfopgaa.Fw

set_option linter.unusedVariables false
set_option linter.unusedSimpArgs false
set_option maxRecDepth 100000
set_option maxHeartbeats 1000000
namespace Go.Proofs.Ytbaljbadlfopgaa.Fw
open Go Go.Fw Go.Proofs
attribute [local irreducible] stepI
def c_culletref19_near : C := .seq (.ops [⟨0,some 6,none,.mov (.c (.slice none 0 0)),[]⟩,⟨1,some 7,none,.mov (.c (.bool false)),[]⟩]) (.seq (.ops [⟨0,some 28,none,.mov (.t 1),[]⟩,⟨1,some 29,none,.len (.t 28),[]⟩,⟨2,some 8,none,.mov (.t 29),[]⟩]) (.seq (.ops [⟨0,some 30,none,.mov (.t 8),[]⟩,⟨1,some 31,none,.mov (.t 0),[]⟩,⟨2,some 32,none,.bin .sub (.t 30) (.t 31),[]⟩,⟨3,some 33,none,.bin .quo (.t 32) (.c (.int .i64 2)),[]⟩,⟨4,some 9,none,.mov (.t 33),[]⟩]) (.seq (.ops [⟨0,some 35,none,.mov (.t 1),[]⟩,⟨1,some 36,none,.mov (.t 2),[]⟩,⟨2,some 37,none,.call (.c (.func (.func 80) #[] #[])) [.t 35,.t 36],[]⟩,⟨3,some 34,none,.mov (.t 37),[]⟩,⟨4,some 38,none,.ext (.t 34) 0,[]⟩,⟨5,some 39,none,.ext (.t 34) 1,[]⟩,⟨6,some 10,none,.mov (.t 38),[]⟩,⟨7,some 11,none,.mov (.t 39),[]⟩]) (.seq (.ops [⟨0,some 41,none,.mov (.t 10),[]⟩,⟨1,some 42,none,.mov (.t 11),[]⟩,⟨2,some 43,none,.call (.c (.func (.func 81) #[] #[])) [.c (.bool false),.t 41,.t 42],[]⟩,⟨3,some 40,none,.mov (.t 43),[]⟩,⟨4,some 44,none,.ext (.t 40) 0,[]⟩,⟨5,some 45,none,.ext (.t 40) 1,[]⟩,⟨6,some 12,none,.mov (.t 44),[]⟩,⟨7,some 13,none,.mov (.t 45),[]⟩]) (.seq (.seq (.ops [⟨0,some 46,none,.mov (.t 12),[]⟩,⟨1,some 47,none,.len (.t 46),[]⟩,⟨2,some 48,none,.mov (.t 0),[]⟩,⟨3,some 49,none,.bin .leq (.t 47) (.t 48),[]⟩]) (.ite (.t 49) (.seq (.ops [⟨0,some 50,none,.mov (.t 12),[]⟩,⟨1,some 6,none,.mov (.t 50),[]⟩,⟨2,some 7,none,.mov (.c (.bool true)),[]⟩]) .ret) .skip)) (.seq (.ops [⟨0,some 51,none,.mov (.t 8),[]⟩,⟨1,some 52,none,.mks 25 24 [.slice none 0 0] (.t 51) (.t 51),[]⟩,⟨2,some 14,none,.mov (.t 52),[]⟩]) (.seq (.seq (.ops [⟨0,some 15,none,.mov (.c (.int .i64 0)),[]⟩]) (.block 0 (.loop (.seq (.seq (.ops [⟨0,some 53,none,.mov (.t 15),[]⟩,⟨1,some 54,none,.mov (.t 8),[]⟩,⟨2,some 55,none,.bin .lss (.t 53) (.t 54),[]⟩]) (.ite (.t 55) .skip (.exit 0))) (.seq (.block 1 (.seq (.ops [⟨0,some 58,none,.mov (.t 14),[]⟩,⟨1,some 59,none,.mov (.t 15),[]⟩,⟨2,some 60,none,.mov (.t 0),[]⟩,⟨3,some 61,none,.mov (.t 9),[]⟩,⟨4,some 62,none,.bin .mul (.c (.int .i64 2)) (.t 61),[]⟩,⟨5,some 63,none,.bin .add (.t 60) (.t 62),[]⟩,⟨6,some 64,none,.bin .add (.t 63) (.c (.int .i64 1)),[]⟩,⟨7,some 65,none,.mks 5 1 [.int .u8 0] (.t 64) (.t 64),[]⟩,⟨8,some 66,none,.ixs 1 (.t 58) (.t 59),[]⟩,⟨9,none,none,.st (.t 66) (.t 65),[]⟩]) (.seq (.ops [⟨0,some 16,none,.mov (.c (.int .u8 1)),[]⟩]) (.seq (.ops [⟨0,some 17,none,.mov (.c (.int .i64 0)),[]⟩]) (.block 2 (.loop (.seq (.seq (.ops [⟨0,some 67,none,.mov (.t 17),[]⟩,⟨1,some 68,none,.mov (.t 0),[]⟩,⟨2,some 69,none,.mov (.t 9),[]⟩,⟨3,some 70,none,.bin .add (.t 68) (.t 69),[]⟩,⟨4,some 71,none,.bin .lss (.t 67) (.t 70),[]⟩]) (.ite (.t 71) .skip (.exit 2))) (.seq (.block 3 (.seq (.ops [⟨0,some 74,none,.mov (.t 14),[]⟩,⟨1,some 75,none,.mov (.t 15),[]⟩,⟨2,some 76,none,.ixs 1 (.t 74) (.t 75),[]⟩,⟨3,some 77,none,.ld (.t 76),[]⟩,⟨4,some 78,none,.mov (.t 17),[]⟩,⟨5,some 79,none,.mov (.t 16),[]⟩,⟨6,some 80,none,.ixs 1 (.t 77) (.t 78),[]⟩,⟨7,none,none,.st (.t 80) (.t 79),[]⟩]) (.seq (.seq (.ops [⟨0,some 81,none,.mov (.t 17),[]⟩,⟨1,some 82,none,.mov (.t 9),[]⟩,⟨2,some 83,none,.bin .leq (.t 81) (.t 82),[]⟩]) (.ite (.t 83) (.dops [⟨0,some 84,none,.mov (.t 14),[]⟩,⟨1,some 85,none,.mov (.t 15),[]⟩,⟨2,some 86,none,.ixs 1 (.t 84) (.t 85),[]⟩,⟨3,some 87,none,.ld (.t 86),[]⟩,⟨4,some 88,none,.mov (.t 0),[]⟩,⟨5,some 89,none,.mov (.t 9),[]⟩,⟨6,some 90,none,.bin .add (.t 88) (.t 89),[]⟩,⟨7,some 91,none,.mov (.t 17),[]⟩,⟨8,some 92,none,.bin .add (.t 90) (.t 91),[]⟩,⟨9,some 93,none,.mov (.t 16),[]⟩,⟨10,some 94,none,.mov (.t 2),[]⟩,⟨11,some 95,none,.mov (.t 15),[]⟩,⟨12,some 96,none,.ixs 1 (.t 94) (.t 95),[]⟩,⟨13,some 97,none,.ld (.t 96),[]⟩,⟨14,some 98,none,.call (.c (.func (.func 100) #[] #[])) [.t 93,.t 97],[3]⟩,⟨15,some 99,none,.ixs 1 (.t 87) (.t 92),[]⟩,⟨16,none,none,.st (.t 99) (.t 98),[]⟩]) .skip)) (.ops [⟨0,some 100,none,.mov (.t 16),[]⟩,⟨1,some 101,none,.mov (.t 1),[]⟩,⟨2,some 102,none,.mov (.t 15),[]⟩,⟨3,some 103,none,.ixs 1 (.t 101) (.t 102),[]⟩,⟨4,some 104,none,.ld (.t 103),[]⟩,⟨5,some 105,none,.cnv .u8 (.t 104),[]⟩,⟨6,some 106,none,.call (.c (.func (.func 100) #[] #[])) [.t 100,.t 105],[]⟩,⟨7,some 16,none,.mov (.t 106),[]⟩])))) (.ops [⟨0,some 72,none,.mov (.t 17),[]⟩,⟨1,some 73,none,.bin .add (.t 72) (.c (.int .i64 1)),[]⟩,⟨2,some 17,none,.mov (.t 73),[]⟩]))))))))) (.ops [⟨0,some 56,none,.mov (.t 15),[]⟩,⟨1,some 57,none,.bin .add (.t 56) (.c (.int .i64 1)),[]⟩,⟨2,some 15,none,.mov (.t 57),[]⟩])))))) (.seq (.ops [⟨0,some 108,none,.mov (.t 14),[]⟩,⟨1,some 109,none,.call (.c (.func (.func 123) #[] #[])) [.t 108],[]⟩,⟨2,some 107,none,.mov (.t 109),[]⟩,⟨3,some 110,none,.ext (.t 107) 0,[]⟩,⟨4,some 111,none,.ext (.t 107) 1,[]⟩,⟨5,some 18,none,.mov (.t 110),[]⟩,⟨6,some 19,none,.mov (.t 111),[]⟩]) (.seq (.seq (.ops [⟨0,some 112,none,.mov (.t 19),[]⟩,⟨1,some 113,none,.bin .neq (.t 112) (.c (.int .i64 0)),[]⟩,⟨2,some 114,none,.mov (.t 113),[]⟩,⟨3,some 115,(some (114,false)),.mov (.t 18),[]⟩,⟨4,some 116,(some (114,false)),.len (.t 115),[]⟩,⟨5,some 117,(some (114,false)),.bin .eql (.t 116) (.c (.int .i64 0)),[]⟩,⟨6,some 118,none,.pick (.t 114) (.c (.bool true)) (.t 117),[]⟩]) (.ite (.t 118) (.seq (.ops [⟨0,some 6,none,.mov (.c (.slice none 0 0)),[]⟩,⟨1,some 7,none,.mov (.c (.bool false)),[]⟩]) .ret) .skip)) (.seq (.ops [⟨0,some 119,none,.mov (.t 0),[]⟩,⟨1,some 120,none,.mov (.t 9),[]⟩,⟨2,some 121,none,.bin .add (.t 119) (.t 120),[]⟩,⟨3,some 122,none,.mks 73 2 [.int .u16 0] (.t 121) (.t 121),[]⟩,⟨4,some 20,none,.mov (.t 122),[]⟩]) (.seq (.ops [⟨0,some 123,none,.mov (.t 9),[]⟩,⟨1,some 124,none,.bin .add (.t 123) (.c (.int .i64 1)),[]⟩,⟨2,some 125,none,.mks 73 2 [.int .u16 0] (.t 124) (.t 124),[]⟩,⟨3,some 21,none,.mov (.t 125),[]⟩]) (.seq (.seq (.ops [⟨0,some 22,none,.mov (.c (.int .i64 0)),[]⟩]) (.block 4 (.loop (.seq (.seq (.ops [⟨0,some 126,none,.mov (.t 22),[]⟩,⟨1,some 127,none,.mov (.t 0),[]⟩,⟨2,some 128,none,.mov (.t 9),[]⟩,⟨3,some 129,none,.bin .add (.t 127) (.t 128),[]⟩,⟨4,some 130,none,.bin .lss (.t 126) (.t 129),[]⟩]) (.ite (.t 130) .skip (.exit 4))) (.seq (.block 5 (.ops [⟨0,some 133,none,.mov (.t 20),[]⟩,⟨1,some 134,none,.mov (.t 22),[]⟩,⟨2,some 135,none,.mov (.t 18),[]⟩,⟨3,some 136,none,.ixs 1 (.t 135) (.c (.int .i64 0)),[]⟩,⟨4,some 137,none,.ld (.t 136),[]⟩,⟨5,some 138,none,.mov (.t 22),[]⟩,⟨6,some 139,none,.ixs 1 (.t 137) (.t 138),[]⟩,⟨7,some 140,none,.ld (.t 139),[]⟩,⟨8,some 141,none,.cnv .u16 (.t 140),[]⟩,⟨9,some 142,none,.ixs 1 (.t 133) (.t 134),[]⟩,⟨10,none,none,.st (.t 142) (.t 141),[]⟩])) (.ops [⟨0,some 131,none,.mov (.t 22),[]⟩,⟨1,some 132,none,.bin .add (.t 131) (.c (.int .i64 1)),[]⟩,⟨2,some 22,none,.mov (.t 132),[]⟩])))))) (.seq (.seq (.ops [⟨0,some 23,none,.mov (.c (.int .i64 0)),[]⟩]) (.block 6 (.loop (.seq (.seq (.ops [⟨0,some 143,none,.mov (.t 23),[]⟩,⟨1,some 144,none,.mov (.t 9),[]⟩,⟨2,some 145,none,.bin .leq (.t 143) (.t 144),[]⟩]) (.ite (.t 145) .skip (.exit 6))) (.seq (.block 7 (.ops [⟨0,some 148,none,.mov (.t 21),[]⟩,⟨1,some 149,none,.mov (.t 23),[]⟩,⟨2,some 150,none,.mov (.t 18),[]⟩,⟨3,some 151,none,.ixs 1 (.t 150) (.c (.int .i64 0)),[]⟩,⟨4,some 152,none,.ld (.t 151),[]⟩,⟨5,some 153,none,.mov (.t 0),[]⟩,⟨6,some 154,none,.mov (.t 9),[]⟩,⟨7,some 155,none,.bin .add (.t 153) (.t 154),[]⟩,⟨8,some 156,none,.mov (.t 23),[]⟩,⟨9,some 157,none,.bin .add (.t 155) (.t 156),[]⟩,⟨10,some 158,none,.ixs 1 (.t 152) (.t 157),[]⟩,⟨11,some 159,none,.ld (.t 158),[]⟩,⟨12,some 160,none,.cnv .u16 (.t 159),[]⟩,⟨13,some 161,none,.ixs 1 (.t 148) (.t 149),[]⟩,⟨14,none,none,.st (.t 161) (.t 160),[]⟩])) (.ops [⟨0,some 146,none,.mov (.t 23),[]⟩,⟨1,some 147,none,.bin .add (.t 146) (.c (.int .i64 1)),[]⟩,⟨2,some 23,none,.mov (.t 147),[]⟩])))))) (.seq (.ops [⟨0,some 163,none,.mov (.t 20),[]⟩,⟨1,some 164,none,.mov (.t 21),[]⟩,⟨2,some 165,none,.call (.c (.func (.func 124) #[] #[])) [.c (.bool false),.t 163,.t 164],[]⟩,⟨3,some 162,none,.mov (.t 165),[]⟩,⟨4,some 166,none,.ext (.t 162) 0,[]⟩,⟨5,some 167,none,.ext (.t 162) 1,[]⟩,⟨6,some 168,none,.ext (.t 162) 2,[]⟩,⟨7,some 24,none,.mov (.t 166),[]⟩,⟨8,some 25,none,.mov (.t 167),[]⟩,⟨9,some 19,none,.mov (.t 168),[]⟩]) (.seq (.seq (.ops [⟨0,some 169,none,.mov (.t 19),[]⟩,⟨1,some 170,none,.bin .neq (.t 169) (.c (.int .i64 0)),[]⟩,⟨2,some 171,none,.mov (.t 170),[]⟩,⟨3,some 172,(some (171,false)),.mov (.t 25),[]⟩,⟨4,some 173,(some (171,false)),.len (.t 172),[]⟩,⟨5,some 174,(some (171,false)),.bin .gtr (.t 173) (.c (.int .i64 0)),[]⟩,⟨6,some 175,none,.pick (.t 171) (.c (.bool true)) (.t 174),[]⟩,⟨7,some 176,none,.mov (.t 175),[]⟩,⟨8,some 177,(some (176,false)),.mov (.t 24),[]⟩,⟨9,some 178,(some (176,false)),.len (.t 177),[]⟩,⟨10,some 179,(some (176,false)),.mov (.t 0),[]⟩,⟨11,some 180,(some (176,false)),.bin .gtr (.t 178) (.t 179),[]⟩,⟨12,some 181,none,.pick (.t 176) (.c (.bool true)) (.t 180),[]⟩]) (.ite (.t 181) (.seq (.ops [⟨0,some 6,none,.mov (.c (.slice none 0 0)),[]⟩,⟨1,some 7,none,.mov (.c (.bool false)),[]⟩]) .ret) .skip)) (.seq (.ops [⟨0,some 26,none,.mov (.c (.int .i64 0)),[]⟩]) (.seq (.seq (.ops [⟨0,some 27,none,.mov (.c (.int .i64 0)),[]⟩]) (.block 8 (.loop (.seq (.seq (.ops [⟨0,some 182,none,.mov (.t 27),[]⟩,⟨1,some 183,none,.mov (.t 8),[]⟩,⟨2,some 184,none,.bin .lss (.t 182) (.t 183),[]⟩]) (.ite (.t 184) .skip (.exit 8))) (.seq (.block 9 (.seq (.dops [⟨0,some 187,none,.mov (.t 24),[]⟩,⟨1,some 188,none,.mov (.t 1),[]⟩,⟨2,some 189,none,.mov (.t 27),[]⟩,⟨3,some 190,none,.ixs 1 (.t 188) (.t 189),[]⟩,⟨4,some 191,none,.ld (.t 190),[]⟩,⟨5,some 192,none,.call (.c (.func (.func 83) #[] #[])) [.t 187,.t 191],[]⟩,⟨6,some 193,none,.mov (.t 2),[]⟩,⟨7,some 194,none,.mov (.t 27),[]⟩,⟨8,some 195,none,.ixs 1 (.t 193) (.t 194),[]⟩,⟨9,some 196,none,.ld (.t 195),[5]⟩,⟨10,some 197,none,.bin .neq (.t 192) (.t 196),[]⟩]) (.ite (.t 197) (.ops [⟨0,some 198,none,.mov (.t 26),[]⟩,⟨1,some 199,none,.bin .add (.t 198) (.c (.int .i64 1)),[]⟩,⟨2,some 26,none,.mov (.t 199),[]⟩]) .skip))) (.ops [⟨0,some 185,none,.mov (.t 27),[]⟩,⟨1,some 186,none,.bin .add (.t 185) (.c (.int .i64 1)),[]⟩,⟨2,some 27,none,.mov (.t 186),[]⟩])))))) (.seq (.ops [⟨0,some 200,none,.mov (.t 24),[]⟩,⟨1,some 201,none,.mov (.t 26),[]⟩,⟨2,some 202,none,.mov (.t 9),[]⟩,⟨3,some 203,none,.bin .leq (.t 201) (.t 202),[]⟩,⟨4,some 6,none,.mov (.t 200),[]⟩,⟨5,some 7,none,.mov (.t 203),[]⟩]) .ret))))))))))))))))))
attribute [irreducible] c_culletref19_near
theorem run_culletref19_near {args : List Value} {w : World} {K : Value → World → Prop} (hn : args.length ≤ 204) (h : WP Try.prog c_culletref19_near (endQ [.t 6, .t 7] K) (initT args) w) : CallV Try.prog 82 args w K :=
  call_of follows Try.func82 (by kernel_rfl) (by kernel_rfl) hn h
end Go.Proofs.Ytbaljbadlfopgaa.Fw
namespace Go.Proofs.Ytbaljbadlfopgaa.Fw
open Go Go.Fw
set_option maxHeartbeats 8000000 in
theorem culletref19_near_spec (w : World) (K : Nat) (s1 s2 : Value) (P : List Int) (Y : List (El 8)) (h1 : Sl w s1 P) (h2 : Sl w s2 Y) (hk1 : 1 ≤ K) (hk : K ≤ P.length) (hP : P.length ≤ 256) (hY : Y.length = P.length) (ha : asc P P.length) :
    CallV Try.prog 82 [.int .i64 (K : Int), s1, s2] w fun v w' => RowKit.Below w.heap.size w w' ∧
      ((∃ (sf : Value) (g : List (El 8)), v = .tuple #[sf, .bool true] ∧ Ow w.heap.size w' sf (g.map em8) ∧ tr g = g ∧ g.length ≤ K ∧ (offP g P Y).length ≤ (P.length - K) / 2) ∨
       (∃ sf, v = .tuple #[sf, .bool false] ∧ ∀ g, tr g = g → g.length ≤ K → (P.length - K) / 2 < (offP g P Y).length)) := by
  have e1 : IntKind.i64.wrap ((P.length : Int) - (K : Int)) = ((P.length - K : Nat) : Int) := by rw [wrap_id (by omega) (by omega)]; omega
  have q3 : ((P.length - K : Nat) : Int).tdiv 2 = (((P.length - K) / 2 : Nat) : Int) := (Int.ofNat_tdiv _ 2).symm
  have q4 : IntKind.i64.wrap (((P.length - K) / 2 : Nat) : Int) = (((P.length - K) / 2 : Nat) : Int) := w_nat _ (by omega)
  have hn2 : ((2 : Int) ≠ 0) = True := eq_true (by decide)
  obtain ⟨r, hr⟩ : ∃ r, r = (P.length - K) / 2 := ⟨_, rfl⟩
  have hr2 : K + 2 * r ≤ P.length := by omega
  refine run_culletref19_near (by simp) ?_
  simp only [c_culletref19_near, WS, ↓reduceIte, Nat.reduceEqDiff, reduceCtorEq, h1.Xlen, e1, X_quo, hn2, q3, q4]
  rw [← hr]
  refine X_call0 ((culletref19_wide_spec w s1 s2 P Y h1 h2 hP hY ha).mono ?_)
  rintro _ w1 ⟨B, sx, sy, rfl, ox, oy⟩
  have h1 := h1.up B
  have h2 := h2.up B
  simp (maxSteps := 1000000) (disch := omega) only [WS, ↓reduceIte, Nat.reduceEqDiff, reduceCtorEq, AS]
  have hlx : ((xsP P).map em8).length = P.length := by rw [List.length_map, xsP_len]
  refine X_call0 ((culletref04_Interpolate_b_spec w1 sx sy (xsP P) Y ox.sl oy.sl (by rw [xsP_len]; omega) (by omega)).mono ?_)
  rintro vv w2 ⟨hB, hres⟩
  have hX := xsP_dist ha
  obtain ⟨sf, m, rfl, of, tm, lm, hm⟩ : ∃ (s : Value) (m : List (El 8)), vv = .tuple #[s, .int .i64 0] ∧ Ow w1.heap.size w2 s (m.map em8) ∧ tr m = m ∧ m.length ≤ P.length ∧ ∀ j, j < P.length → evl m (nth (xsP P) j) = nth Y j := by
    rcases hres with ⟨-, -, -, -, s, m, a1, a2, a3, a4, a5⟩ | ⟨-, -, h9, -⟩ | ⟨-, -, -, h9, -⟩ | ⟨h9, -⟩
    · rw [xsP_len] at a4 a5
      exact ⟨s, m, a1, a2, a3, a4, a5⟩
    · exact absurd (by rw [xsP_len]; exact hY) h9
    · exact absurd (by rw [xsP_len]; exact hX) h9
    · exact absurd ⟨by rw [xsP_len]; omega, by omega⟩ h9
  clear hres ox oy
  have z1 := B.size
  have h1 := h1.up hB
  have h2 := h2.up hB
  have B := B.trans (hB.mono B.size)
  clear hB
  have lmm : (m.map em8).length = m.length := List.length_map ..
  by_cases hmk : m.length ≤ K
  · have hoff : offP m P Y = [] := by
      refine List.eq_nil_iff_forall_not_mem.2 fun j hj => ?_
      obtain ⟨a1, a2⟩ := offs_mem.1 hj
      exact a2 (hm j a1)
    simp (maxSteps := 1000000) (disch := omega) only [WS, ↓reduceIte, Nat.reduceEqDiff, reduceCtorEq, AS, of.sl.Xlen, lmm]
    exact ⟨B, Or.inl ⟨sf, m, rfl, of.mono z1, tm, hmk, by rw [hoff]; exact Nat.zero_le _⟩⟩
  simp (maxSteps := 1000000) (disch := omega) only [WS, ↓reduceIte, Nat.reduceEqDiff, reduceCtorEq, AS, of.sl.Xlen, lmm]
  clear of
  refine X_mks (x := hdn) (n := P.length) (by simp only [maxBytes]; omega) (by omega) fun st w3 ot hB => ?_
  simp (maxSteps := 1000000) (disch := omega) only [WS, ↓reduceIte, Nat.reduceEqDiff, reduceCtorEq, AS]
  refine loop_of (fun t w' => t 0 = .int .i64 (K : Int) ∧ t 1 = s1 ∧ t 2 = s2 ∧ t 8 = .int .i64 (P.length : Int) ∧ t 9 = .int .i64 (r : Int) ∧ t 14 = st ∧ ∃ (i : Nat) (hs' : List Hd) (R : Nat → List (El 8)), t 15 = .int .i64 (i : Int) ∧ i ≤ P.length ∧ hs'.length = P.length ∧ (∀ a, a < i → (R a).length = K + r + (r + 1) ∧ ∀ c, c < K + r + (r + 1) → nth (R a) c = rowB (nth (xsP P) a) (nth Y a) (K + r) c) ∧ (∀ a, i ≤ a → R a = []) ∧ ShM w2.heap.size (fun w' => RowKit.Below w2.heap.size w2 w') (fun _ => []) st hs' R w') (fun t _ => P.length - (toI (t 15)).toNat)
    ⟨by simp only [WS, ↓reduceIte, Nat.reduceEqDiff, reduceCtorEq], by simp only [WS, ↓reduceIte, Nat.reduceEqDiff, reduceCtorEq], by simp only [WS, ↓reduceIte, Nat.reduceEqDiff, reduceCtorEq], by simp only [WS, ↓reduceIte, Nat.reduceEqDiff, reduceCtorEq], by simp only [WS, ↓reduceIte, Nat.reduceEqDiff, reduceCtorEq], by simp only [WS, ↓reduceIte, Nat.reduceEqDiff, reduceCtorEq], 0, _, fun _ => [], by simp only [WS, ↓reduceIte, Nat.reduceEqDiff, reduceCtorEq]; rfl, by omega, List.length_replicate .., fun a h => absurd h (Nat.not_lt_zero _), fun _ _ => rfl, ShM.fresh ot hB⟩ ?_
  clear ot hB
  rintro t w4 ⟨t0, t1, t2, t8, t9, t14, i, hs1, R, t15, hi, lh1, hR, hR0, hS⟩
  have E := hS.frm
  by_cases hil : i < P.length
  · have e2r : IntKind.i64.wrap (2 * (r : Int)) = 2 * (r : Int) := wrap_id (by omega) (by omega)
    have ek2 : IntKind.i64.wrap ((K : Int) + 2 * (r : Int)) = (K : Int) + 2 * (r : Int) := wrap_id (by omega) (by omega)
    have ek3 : IntKind.i64.wrap ((K : Int) + 2 * (r : Int) + 1) = ((K + r + (r + 1) : Nat) : Int) := by rw [wrap_id (by omega) (by omega)]; omega
    have ekr : IntKind.i64.wrap ((K : Int) + (r : Int)) = ((K + r : Nat) : Int) := by rw [wrap_id (by omega) (by omega)]; omega
    simp (maxSteps := 1000000) (disch := omega) only [WS, ↓reduceIte, Nat.reduceEqDiff, reduceCtorEq, AS, t0, t1, t2, t8, t9, t14, t15, e2r, ek2, ek3]
    refine X_mks (x := (0 : El 8)) (n := K + r + (r + 1)) (by simp only [maxBytes]; omega) (by omega) fun sr w5 or hB => ?_
    have hS5 := hS.up (frmB w2) hB
    have iS : i < hs1.length := by omega
    have hcv : Cell.v (hd sr) = sr := or.sl.hd.1
    have hne0 : List.replicate (K + r + (r + 1)) (0 : El 8) ≠ [] := ne_nil_of (i := 0) (by rw [List.length_replicate]; omega)
    simp (maxSteps := 1000000) (disch := omega) only [WS, ↓reduceIte, Nat.reduceEqDiff, reduceCtorEq, AS, t0, t1, t2, t8, t9, t14, t15, hS5.top.sl.Xix iS]
    rw [← hcv]
    refine ShM.Xput (frmB w2) hS hS5 iS (hR0 i (Nat.le_refl _)) rfl (fun b hb => (hS5.top.blk b hb).1) (hd sr) hne0 (by rw [hcv]; exact or) E.size fun w6 c hS6 hg hc => ?_
    clear hg hc hS5 or hB
    obtain ⟨xi, hxi⟩ : ∃ x, x = nth (xsP P) i := ⟨_, rfl⟩
    obtain ⟨q1, q2, -⟩ := ha i hil hil
    have u1 : IntKind.u8.wrap P[i] = (xi.v.toNat : Int) := by
      obtain ⟨p, hp⟩ : ∃ p : Nat, P[i] = (p : Int) := ⟨P[i].toNat, by omega⟩
      rw [hxi, nth_get (by rw [xsP_len]; exact hil), xsP_get P (by rw [xsP_len]; exact hil) hil, hp, Int.toNat_natCast, en8_v (by omega), wrap_u8 _ (by omega)]
    simp (maxSteps := 1000000) (disch := omega) only [WS, ↓reduceIte, Nat.reduceEqDiff, reduceCtorEq, AS, t0, t1, t2, t8, t9, t14, t15]
    refine loop_of (fun t w' => t 0 = .int .i64 (K : Int) ∧ t 1 = s1 ∧ t 2 = s2 ∧ t 8 = .int .i64 (P.length : Int) ∧ t 9 = .int .i64 (r : Int) ∧ t 14 = st ∧ t 15 = .int .i64 (i : Int) ∧ ∃ (j : Nat) (M : List (El 8)), t 17 = .int .i64 (j : Int) ∧ j ≤ K + r ∧ t 16 = .int .u8 ((epw xi j).v.toNat : Int) ∧ M.length = K + r + (r + 1) ∧ (∀ c, c < j → nth M c = epw xi c) ∧ (∀ c, K + r ≤ c → c < K + r + (r + 1) → c - (K + r) < j → nth M c = epw xi (c - (K + r)) * nth Y i) ∧ ShM w2.heap.size (fun w' => RowKit.Below w2.heap.size w2 w') (fun _ => []) st (hs1.set i (hd sr)) (fun y => if y = i then M else R y) w') (fun t _ => K + r - (toI (t 17)).toNat)
      ⟨by simp only [WS, ↓reduceIte, Nat.reduceEqDiff, reduceCtorEq]; exact t0, by simp only [WS, ↓reduceIte, Nat.reduceEqDiff, reduceCtorEq]; exact t1, by simp only [WS, ↓reduceIte, Nat.reduceEqDiff, reduceCtorEq]; exact t2, by simp only [WS, ↓reduceIte, Nat.reduceEqDiff, reduceCtorEq]; exact t8, by simp only [WS, ↓reduceIte, Nat.reduceEqDiff, reduceCtorEq]; exact t9, by simp only [WS, ↓reduceIte, Nat.reduceEqDiff, reduceCtorEq]; exact t14, by simp only [WS, ↓reduceIte, Nat.reduceEqDiff, reduceCtorEq]; exact t15, 0, _, by simp only [WS, ↓reduceIte, Nat.reduceEqDiff, reduceCtorEq]; rfl, by omega, by simp only [WS, ↓reduceIte, Nat.reduceEqDiff, reduceCtorEq]; rfl, List.length_replicate .., fun c h => absurd h (Nat.not_lt_zero _), fun c _ _ h => absurd h (Nat.not_lt_zero _), hS6⟩ ?_
    clear t0 t1 t2 t8 t9 t14 t15 hS6
    rintro t w7 ⟨t0, t1, t2, t8, t9, t14, t15, j, M, t17, hj, t16, lM, hM1, hM2, hS7⟩
    have E := hS7.frm
    have iS' : i < (hs1.set i (hd sr)).length := by rw [List.length_set]; exact iS
    by_cases hjk : j < K + r
    rotate_left
    · obtain rfl : j = K + r := by omega
      simp (maxSteps := 1000000) (disch := omega) only [WS, ↓reduceIte, Nat.reduceEqDiff, reduceCtorEq, AS, t0, t1, t2, t8, t9, t14, t15, t17, t16, ekr]
      refine ⟨⟨i + 1, _, _, rfl, by omega, by rw [List.length_set]; exact lh1, fun a haI => ?_, fun a haI => ?_, hS7⟩, by omega⟩
      · by_cases e : a = i
        · subst e
          simp only [if_true]
          refine ⟨lM, fun c hc => ?_⟩
          unfold rowB
          by_cases e2 : c < K + r
          · rw [if_pos e2, hM1 c e2, hxi]
          · rw [if_neg e2, hM2 c (by omega) hc (by omega), hxi]
        · simp only [if_neg e]
          exact hR a (by omega)
      · simp only [if_neg (show a ≠ i by omega)]
        exact hR0 a (by omega)
    have h2' := h2.up E
    have h1' := h1.up E
    have iY : i < Y.length := by omega
    have ijM : j < M.length := by omega
    have hXi : (if i = i then M else R i) = M := if_pos rfl
    have si := hS7.sl iS'
    simp only [hXi] at si
    simp (maxSteps := 1000000) (disch := omega) only [WS, ↓reduceIte, Nat.reduceEqDiff, reduceCtorEq, AS, t0, t1, t2, t8, t9, t14, t15, t17, t16, ekr, hS7.top.sl.Xix iS', hS7.top.sl.Xld iS', si.Xix ijM]
    refine ShM.Xst (frmB w2) hS7 iS' (by show j < (if i = i then M else R i).length; rw [hXi]; exact ijM) (fun b hb => frmB_D hS7 i iS' b (by simp only [hXi]; exact ne_nil_of ijM) hb) (epw xi j) fun w8 c hS8 hg hc => ?_
    have hS8 : ShM w2.heap.size (fun w' => RowKit.Below w2.heap.size w2 w') (fun _ => []) st (hs1.set i (hd sr)) (fun y => if y = i then M.set j (epw xi j) else R y) w8 := hS8.congr fun y hy => by
      by_cases e : y = i
      · subst e; simp only [if_true]
      · simp only [if_neg e]
    clear hg hc hS7 si h1' h2'
    have E := hS8.frm
    have h1' := h1.up E
    have lM1 : (M.set j (epw xi j)).length = K + r + (r + 1) := by rw [List.length_set]; exact lM
    have hMa : ∀ c, c < j + 1 → nth (M.set j (epw xi j)) c = epw xi c := fun c hc => by
      rw [nth_set ijM]
      by_cases e : c = j
      · rw [if_pos e, e]
      · rw [if_neg e]; exact hM1 c (by omega)
    have hMb : ∀ c, K + r ≤ c → c < K + r + (r + 1) → c - (K + r) < j → nth (M.set j (epw xi j)) c = epw xi (c - (K + r)) * nth Y i := fun c a1 a2 a3 => by
      rw [nth_set ijM, if_neg (by omega)]; exact hM2 c a1 a2 a3
    simp (maxSteps := 1000000) (disch := omega) only [WS, ↓reduceIte, Nat.reduceEqDiff, reduceCtorEq, AS, t0, t1, t2, t8, t9, t14, t15, t17, t16]
    refine iteW_cut (fun t w' => t 0 = .int .i64 (K : Int) ∧ t 1 = s1 ∧ t 2 = s2 ∧ t 8 = .int .i64 (P.length : Int) ∧ t 9 = .int .i64 (r : Int) ∧ t 14 = st ∧ t 15 = .int .i64 (i : Int) ∧ t 17 = .int .i64 (j : Int) ∧ t 16 = .int .u8 ((epw xi j).v.toNat : Int) ∧ ∃ M : List (El 8), M.length = K + r + (r + 1) ∧ (∀ c, c < j + 1 → nth M c = epw xi c) ∧ (∀ c, K + r ≤ c → c < K + r + (r + 1) → c - (K + r) < j + 1 → nth M c = epw xi (c - (K + r)) * nth Y i) ∧ ShM w2.heap.size (fun w' => RowKit.Below w2.heap.size w2 w') (fun _ => []) st (hs1.set i (hd sr)) (fun y => if y = i then M else R y) w') ?_ fun t w9 hQ => ?_
    · by_cases hjr : j ≤ r
      rotate_left
      · simp (maxSteps := 1000000) (disch := omega) only [WS, ↓reduceIte, Nat.reduceEqDiff, reduceCtorEq, AS, t0, t1, t2, t8, t9, t14, t15, t17, t16]
        exact ⟨_, lM1, hMa, fun c a1 a2 a3 => hMb c a1 a2 (by omega), hS8⟩
      have ekj : IntKind.i64.wrap (((K + r : Nat) : Int) + (j : Int)) = ((K + r + j : Nat) : Int) := by rw [wrap_id (by omega) (by omega)]; omega
      simp (maxSteps := 1000000) (disch := omega) only [WS, ↓reduceIte, Nat.reduceEqDiff, reduceCtorEq, AS, t0, t1, t2, t8, t9, t14, t15, t17, t16]
      refine WP_dops ?_
      have bd := bel_drew w8
      have hS9 := hS8.up (frmB w2) bd
      clear bd
      have E9 := hS9.frm
      have h2' := h2.up E9
      have hXi2 : (if i = i then M.set j (epw xi j) else R i) = M.set j (epw xi j) := if_pos rfl
      have si := hS9.sl iS'
      simp only [hXi2] at si
      have iK : K + r + j < (M.set j (epw xi j)).length := by omega
      have see : Fw.sees Try.prog (.ld (.c (elP st i))) w8.drew (Cell.v (hs1.set i (hd sr))[i]) = True := hS9.top.sl.sees iS' Try.prog
      simp (maxSteps := 1000000) (disch := omega) only [ES, List.mem_cons, List.not_mem_nil, implies_true, forall_const, WS, ↓reduceIte, Nat.reduceEqDiff, reduceCtorEq, AS, t0, t1, t2, t8, t9, t14, t15, t17, t16, ekr, ekj, hS9.top.sl.Eix iS', hS9.top.sl.Eld iS', h2'.Eix iY, h2'.Eld iY, cell_e8, see]
      refine E_call0 ((culletref02_Mul_spec w8.drew (epw xi j) Y[i]).mono ?_)
      rintro _ w9 ⟨rfl, rfl⟩
      simp (maxSteps := 1000000) (disch := omega) only [ES, List.mem_cons, List.not_mem_nil, implies_true, forall_const, WS, ↓reduceIte, Nat.reduceEqDiff, reduceCtorEq, AS, t0, t1, t2, t8, t9, t14, t15, t17, t16, see, si.Eix iK]
      refine ShM.Est (frmB w2) hS9 iS' (by show K + r + j < (if i = i then M.set j (epw xi j) else R i).length; rw [hXi2]; exact iK) (fun b hb => frmB_D hS9 i iS' b (by simp only [hXi2]; exact ne_nil_of iK) hb) (epw xi j * Y[i]) fun w10 c hS10 hg hc => ?_
      simp (maxSteps := 1000000) (disch := omega) only [ES, List.mem_cons, List.not_mem_nil, implies_true, forall_const, WS, ↓reduceIte, Nat.reduceEqDiff, reduceCtorEq, AS, t0, t1, t2, t8, t9, t14, t15, t17, t16]
      refine ⟨(M.set j (epw xi j)).set (K + r + j) (epw xi j * Y[i]), by rw [List.length_set]; exact lM1, fun c hc => ?_, fun c a1 a2 a3 => ?_, hS10.congr fun y hy => ?_⟩
      · rw [nth_set iK, if_neg (by omega)]; exact hMa c hc
      · rw [nth_set iK]
        by_cases e : c = K + r + j
        · rw [if_pos e, e, Nat.add_sub_cancel_left, nth_get iY]
        · rw [if_neg e]; exact hMb c a1 a2 (by omega)
      · by_cases e : y = i
        · subst e; simp only [if_true]
        · simp only [if_neg e]
    clear t0 t1 t2 t8 t9 t14 t15 t17 t16 hS8 hMa hMb hM1 hM2 lM1 E h1'
    obtain ⟨t0, t1, t2, t8, t9, t14, t15, t17, t16, M2, lM2, hMa, hMb, hS9⟩ := hQ
    have E := hS9.frm
    have h1' := h1.up E
    simp (maxSteps := 1000000) (disch := omega) only [WS, ↓reduceIte, Nat.reduceEqDiff, reduceCtorEq, AS, t0, t1, t2, t8, t9, t14, t15, t17, t16, h1'.Xix hil, h1'.Xld hil, cell_int, u1]
    refine X_call0 ((culletref02_Mul_spec w9 (epw xi j) xi).mono ?_)
    rintro _ w10 ⟨rfl, rfl⟩
    simp (maxSteps := 1000000) (disch := omega) only [WS, ↓reduceIte, Nat.reduceEqDiff, reduceCtorEq, AS, t0, t1, t2, t8, t9, t14, t15, t17]
    exact ⟨⟨j + 1, M2, rfl, by omega, rfl, lM2, hMa, hMb, hS9⟩, by omega⟩
  obtain rfl : i = P.length := by omega
  have hCn : K + r + (r + 1) ≤ 512 := by omega
  have hnl : ∀ j, j < hs1.length → (R j).length = K + r + (r + 1) := fun j hj => (hR j (by omega)).1
  simp (maxSteps := 1000000) (disch := omega) only [WS, ↓reduceIte, Nat.reduceEqDiff, reduceCtorEq, AS, t0, t1, t2, t8, t9, t14, t15]
  refine X_call0 ((culletref10_Null_spec w4 st hs1 R (K + r + (r + 1)) hS.top.sl (fun j hj => hS.sl hj) hnl (by omega) (by omega) (by omega) hCn).mono ?_)
  rintro _ w5 ⟨hB, sl, hv, rfl, ol, hnull⟩
  have E5 := E.trans (hB.mono E.size)
  have B := B.trans (E5.mono B.size)
  have h1 := h1.up E5
  have h2 := h2.up E5
  have hdot : ∀ v : Nat → El 8, (∀ i, i < hs1.length → dot (K + r + (r + 1)) (nth (R i)) v = 0) ↔ (∀ i, i < P.length → dot (K + r + (r + 1)) (rowB (nth (xsP P) i) (nth Y i) (K + r)) v = 0) := fun v => by
    rw [lh1]
    exact ⟨fun h i hi => by rw [← dot_congr ((hR i hi).2)]; exact h i hi, fun h i hi => by rw [dot_congr ((hR i hi).2)]; exact h i hi⟩
  clear hS hnl E lmm
  rcases hnull with ⟨rfl, hz⟩ | ⟨h0, v0, sv0, lv0, hsol, cn, hcn, hnz⟩
  · simp (maxSteps := 1000000) (disch := omega) only [WS, ↓reduceIte, Nat.reduceEqDiff, reduceCtorEq, AS, t0, t1, t2, t8, t9, t14, show decide ((0 : Int) ≠ 0) = false from rfl, ol.sl.Xlen, List.length_nil, show decide (((0 : Nat) : Int) = 0) = true from rfl]
    refine ⟨B, Or.inr ⟨_, rfl, fun g tg hg => Nat.lt_of_not_le fun ho => ?_⟩⟩
    obtain ⟨v, hv1, c, hc, hvc⟩ := bw_ex (X := nth (xsP P)) (Y := nth Y) (N := P.length) (r := r) hg ho
    exact hvc (hz v ((hdot v).2 hv1) c hc)
  have hsol := (hdot (nth v0)).1 hsol
  have hl0 : ¬ ((hv.length : Nat) : Int) = 0 := by omega
  have ekr : IntKind.i64.wrap ((K : Int) + (r : Int)) = ((K + r : Nat) : Int) := by rw [wrap_id (by omega) (by omega)]; omega
  have er1 : IntKind.i64.wrap ((r : Int) + 1) = ((r + 1 : Nat) : Int) := by rw [wrap_id (by omega) (by omega)]; omega
  simp (maxSteps := 1000000) (disch := omega) only [WS, ↓reduceIte, Nat.reduceEqDiff, reduceCtorEq, AS, t0, t1, t2, t8, t9, t14, show decide ((0 : Int) ≠ 0) = false from rfl, ol.sl.Xlen, hl0, ekr]
  refine X_mks (x := (0 : El 16)) (n := K + r) (by simp only [maxBytes]; omega) (by omega) fun so w6 oo hB6 => ?_
  have go := Seg.of oo
  simp (maxSteps := 1000000) (disch := omega) only [WS, ↓reduceIte, Nat.reduceEqDiff, reduceCtorEq, AS, t0, t1, t2, t8, t9, t14, er1]
  refine X_mks (x := (0 : El 16)) (n := r + 1) (by simp only [maxBytes]; omega) (by omega) fun su w7 ou hB7 => ?_
  have gu := Seg.of ou
  have go := go.up hB7
  have z6 := hB6.size
  have z7 := hB7.size
  have D7 := hB6.trans (hB7.mono z6)
  have ol := ol.sl
  clear oo ou hB6 hB7
  have u16 : ∀ x : El 8, IntKind.u16.wrap ((x.v.toNat : Nat) : Int) = ((em8 x).v.toNat : Int) := fun x => by
    have := x.v.isLt
    rw [wrap_u16 _ (by omega), em8_nat]
  simp (maxSteps := 1000000) (disch := omega) only [WS, ↓reduceIte, Nat.reduceEqDiff, reduceCtorEq, AS]
  refine loop_of (fun t w' => t 0 = .int .i64 (K : Int) ∧ t 1 = s1 ∧ t 2 = s2 ∧ t 8 = .int .i64 (P.length : Int) ∧ t 9 = .int .i64 (r : Int) ∧ t 18 = sl ∧ t 20 = so ∧ t 21 = su ∧ RowKit.Below w5.heap.size w5 w' ∧ ∃ (x : Nat) (OL : List (El 16)), t 22 = .int .i64 (x : Int) ∧ x ≤ K + r ∧ OL.length = K + r ∧ (∀ j (hj : j < OL.length), j < x → OL[j] = em8 (nth v0 j)) ∧ Seg w5.heap.size w6.heap.size w' so OL ∧ Seg w6.heap.size w7.heap.size w' su (List.replicate (r + 1) 0)) (fun t _ => K + r - (toI (t 22)).toNat)
    ⟨by simp only [WS, ↓reduceIte, Nat.reduceEqDiff, reduceCtorEq]; exact t0, by simp only [WS, ↓reduceIte, Nat.reduceEqDiff, reduceCtorEq]; exact t1, by simp only [WS, ↓reduceIte, Nat.reduceEqDiff, reduceCtorEq]; exact t2, by simp only [WS, ↓reduceIte, Nat.reduceEqDiff, reduceCtorEq]; exact t8, by simp only [WS, ↓reduceIte, Nat.reduceEqDiff, reduceCtorEq]; exact t9, by simp only [WS, ↓reduceIte, Nat.reduceEqDiff, reduceCtorEq], by simp only [WS, ↓reduceIte, Nat.reduceEqDiff, reduceCtorEq], by simp only [WS, ↓reduceIte, Nat.reduceEqDiff, reduceCtorEq], D7, 0, _, by simp only [WS, ↓reduceIte, Nat.reduceEqDiff, reduceCtorEq]; rfl, by omega, List.length_replicate .., fun j hj h => absurd h (Nat.not_lt_zero _), go, gu⟩ ?_
  clear t0 t1 t2 t8 t9 t14 t15 go gu D7
  rintro t w8 ⟨t0, t1, t2, t8, t9, t18, t20, t21, D, x, OL, t22, hx, lOL, hOL, go, gu⟩
  have ol8 := ol.up D
  have sv8 := sv0.up D
  by_cases hxk : x < K + r
  · have ix : x < v0.length := by omega
    have io : x < OL.length := by omega
    simp (maxSteps := 1000000) (disch := omega) only [WS, ↓reduceIte, Nat.reduceEqDiff, reduceCtorEq, AS, t0, t1, t2, t8, t9, t18, t20, t21, t22, ekr, ol8.Xix0 h0, ol8.Xld h0, sv8.Xix ix, sv8.Xld ix, cell_e8, u16, go.sl.Xix io]
    refine go.Xst io (em8 v0[x]) fun w9 c go2 hg q3 q4 => ?_
    have gu := gu.grown hg (Or.inl q4)
    have D := D.grown hg D.size fun y hy => by cases hy; exact q3
    simp (maxSteps := 1000000) (disch := omega) only [WS, ↓reduceIte, Nat.reduceEqDiff, reduceCtorEq, AS, t0, t1, t2, t8, t9, t18, t20, t21, t22]
    refine ⟨⟨D, x + 1, _, rfl, by omega, by rw [List.length_set]; exact lOL, fun j hj hjx => ?_, go2, gu⟩, by omega⟩
    rw [List.getElem_set]
    split
    · rename_i e; subst e; rw [nth_get ix]
    · exact hOL j (by rw [List.length_set] at hj; exact hj) (by omega)
  obtain rfl : x = K + r := by omega
  have eOL : OL = (v0.take (K + r)).map em8 := List.ext_getElem (by rw [lOL, List.length_map, List.length_take]; omega) fun j a1 a2 => by
    rw [hOL j a1 (by omega), List.getElem_map, List.getElem_take, nth_get (by omega)]
  rw [eOL] at go
  clear ol8 sv8
  simp (maxSteps := 1000000) (disch := omega) only [WS, ↓reduceIte, Nat.reduceEqDiff, reduceCtorEq, AS, t0, t1, t2, t8, t9, t18, t20, t21, t22, ekr]
  refine loop_of (fun t w' => t 0 = .int .i64 (K : Int) ∧ t 1 = s1 ∧ t 2 = s2 ∧ t 8 = .int .i64 (P.length : Int) ∧ t 9 = .int .i64 (r : Int) ∧ t 18 = sl ∧ t 20 = so ∧ t 21 = su ∧ RowKit.Below w5.heap.size w5 w' ∧ ∃ (x : Nat) (UL : List (El 16)), t 23 = .int .i64 (x : Int) ∧ x ≤ r + 1 ∧ UL.length = r + 1 ∧ (∀ j (hj : j < UL.length), j < x → UL[j] = em8 (nth v0 (K + r + j))) ∧ Seg w5.heap.size w6.heap.size w' so ((v0.take (K + r)).map em8) ∧ Seg w6.heap.size w7.heap.size w' su UL) (fun t _ => r + 1 - (toI (t 23)).toNat)
    ⟨by simp only [WS, ↓reduceIte, Nat.reduceEqDiff, reduceCtorEq]; exact t0, by simp only [WS, ↓reduceIte, Nat.reduceEqDiff, reduceCtorEq]; exact t1, by simp only [WS, ↓reduceIte, Nat.reduceEqDiff, reduceCtorEq]; exact t2, by simp only [WS, ↓reduceIte, Nat.reduceEqDiff, reduceCtorEq]; exact t8, by simp only [WS, ↓reduceIte, Nat.reduceEqDiff, reduceCtorEq]; exact t9, by simp only [WS, ↓reduceIte, Nat.reduceEqDiff, reduceCtorEq]; exact t18, by simp only [WS, ↓reduceIte, Nat.reduceEqDiff, reduceCtorEq]; exact t20, by simp only [WS, ↓reduceIte, Nat.reduceEqDiff, reduceCtorEq]; exact t21, D, 0, _, by simp only [WS, ↓reduceIte, Nat.reduceEqDiff, reduceCtorEq]; rfl, by omega, List.length_replicate .., fun j hj h => absurd h (Nat.not_lt_zero _), go, gu⟩ ?_
  clear t0 t1 t2 t8 t9 t18 t20 t21 t22 go gu D
  rintro t w8 ⟨t0, t1, t2, t8, t9, t18, t20, t21, D, x, UL, t23, hx, lUL, hUL, go, gu⟩
  have ol8 := ol.up D
  have sv8 := sv0.up D
  by_cases hxk : x < r + 1
  · have ix : K + r + x < v0.length := by omega
    have io : x < UL.length := by omega
    have ekx : IntKind.i64.wrap (((K + r : Nat) : Int) + (x : Int)) = ((K + r + x : Nat) : Int) := by rw [wrap_id (by omega) (by omega)]; omega
    simp (maxSteps := 1000000) (disch := omega) only [WS, ↓reduceIte, Nat.reduceEqDiff, reduceCtorEq, AS, t0, t1, t2, t8, t9, t18, t20, t21, t23, ekr, ekx, ol8.Xix0 h0, ol8.Xld h0, sv8.Xix ix, sv8.Xld ix, cell_e8, u16, gu.sl.Xix io]
    refine gu.Xst io (em8 v0[K + r + x]) fun w9 c gu2 hg q3 q4 => ?_
    have go := go.grown hg (Or.inr q3)
    have D := D.grown hg D.size fun y hy => by cases hy; omega
    simp (maxSteps := 1000000) (disch := omega) only [WS, ↓reduceIte, Nat.reduceEqDiff, reduceCtorEq, AS, t0, t1, t2, t8, t9, t18, t20, t21, t23]
    refine ⟨⟨D, x + 1, _, rfl, by omega, by rw [List.length_set]; exact lUL, fun j hj hjx => ?_, go, gu2⟩, by omega⟩
    rw [List.getElem_set]
    split
    · rename_i e; subst e; rw [nth_get ix]
    · exact hUL j (by rw [List.length_set] at hj; exact hj) (by omega)
  obtain rfl : x = r + 1 := by omega
  have eUL : UL = (v0.drop (K + r)).map em8 := List.ext_getElem (by rw [lUL, List.length_map, List.length_drop]; omega) fun j a1 a2 => by
    rw [hUL j a1 (by omega), List.getElem_map, List.getElem_drop, nth_get (by omega)]
  rw [eUL] at gu
  have l1 : (v0.take (K + r)).length = K + r := by rw [List.length_take]; omega
  have l2 : (v0.drop (K + r)).length = r + 1 := by rw [List.length_drop]; omega
  have hc1 : ∀ c, c < K + r → (co (v0.take (K + r))).c c = nth v0 c := fun c hc => by
    rw [co_get _ (by omega), List.getElem_take, nth_get (by omega)]
  have hc2 : ∀ c, c < r + 1 → (co (v0.drop (K + r))).c c = nth v0 (K + r + c) := fun c hc => by
    rw [co_get _ (by omega), List.getElem_drop, nth_get (by omega)]
  have hdiv : ∀ g, g.length ≤ K → (offP g P Y).length ≤ r → co (v0.take (K + r)) = co g * co (v0.drop (K + r)) := fun g hg ho => bw_div hX hg ho hr2 hsol l1 hc1 l2 hc2
  have hoth : ∀ g, g.length ≤ K → (offP g P Y).length ≤ r → tln (v0.drop (K + r)) ≠ 0 := fun g hg ho e => by
    have e2 := co_zero_of_tln e
    have e3 := hdiv g hg ho
    rw [e2, Ps.mul_zero] at e3
    refine hnz ?_
    by_cases h : cn < K + r
    · rw [← hc1 cn h, e3]; rfl
    · have := hc2 (cn - (K + r)) (by omega)
      rw [e2, show K + r + (cn - (K + r)) = cn by omega] at this
      rw [← this]; rfl
  have h1 := h1.up D
  have h2 := h2.up D
  have B := B.trans (D.mono B.size)
  simp (maxSteps := 1000000) (disch := omega) only [WS, ↓reduceIte, Nat.reduceEqDiff, reduceCtorEq, AS, t0, t1, t2, t8, t9, t18, t20, t21, t23]
  refine X_call0 ((culletref04_DivMod_b_spec w8 so su (v0.take (K + r)) (v0.drop (K + r)) go.sl gu.sl (by omega) (by omega)).mono ?_)
  rintro vv w9 ⟨hB, hres⟩
  have zB := B.size
  have h1 := h1.up hB
  have h2 := h2.up hB
  have B := B.trans (hB.mono B.size)
  clear hB
  rcases hres with ⟨-, -, -, sq, sm, q, rest, rfl, oq, orr, tq, trr, hco, hrl, -⟩ | ⟨-, -, hz0, rfl⟩ | ⟨h9, -⟩
  rotate_left
  · simp (maxSteps := 1000000) (disch := omega) only [WS, ↓reduceIte, Nat.reduceEqDiff, reduceCtorEq, AS, t0, t1, t2, t8, t9, show decide ((40 : Int) ≠ 0) = true from rfl]
    refine ⟨B, Or.inr ⟨_, rfl, fun g tg hg => Nat.lt_of_not_le fun ho => ?_⟩⟩
    exact hoth g hg ho hz0
  · exact absurd ⟨by omega, by omega⟩ h9
  have hun : ∀ g, tr g = g → g.length ≤ K → (offP g P Y).length ≤ r → q = g ∧ rest = [] := fun g tg hg ho => gao_div (by rw [hdiv g hg ho, Ps.mul_comm]) tg tq trr hco hrl
  have lqm : (q.map em8).length = q.length := List.length_map ..
  have lrm : (rest.map em8).length = rest.length := List.length_map ..
  by_cases hrest : 0 < rest.length
  · simp (maxSteps := 1000000) (disch := omega) only [WS, ↓reduceIte, Nat.reduceEqDiff, reduceCtorEq, AS, t0, t1, t2, t8, t9, show decide ((0 : Int) ≠ 0) = false from rfl, orr.sl.Xlen, lrm]
    refine ⟨B, Or.inr ⟨_, rfl, fun g tg hg => Nat.lt_of_not_le fun ho => ?_⟩⟩
    have := (hun g tg hg ho).2
    rw [this] at hrest
    exact absurd hrest (by simp)
  by_cases hqk : K < q.length
  · simp (maxSteps := 1000000) (disch := omega) only [WS, ↓reduceIte, Nat.reduceEqDiff, reduceCtorEq, AS, t0, t1, t2, t8, t9, show decide ((0 : Int) ≠ 0) = false from rfl, orr.sl.Xlen, lrm, oq.sl.Xlen, lqm]
    refine ⟨B, Or.inr ⟨_, rfl, fun g tg hg => Nat.lt_of_not_le fun ho => ?_⟩⟩
    have := (hun g tg hg ho).1
    rw [← this] at hg
    omega
  simp (maxSteps := 1000000) (disch := omega) only [WS, ↓reduceIte, Nat.reduceEqDiff, reduceCtorEq, AS, t0, t1, t2, t8, t9, show decide ((0 : Int) ≠ 0) = false from rfl, orr.sl.Xlen, lrm, oq.sl.Xlen, lqm]
  refine loop_of (fun t w' => t 1 = s1 ∧ t 2 = s2 ∧ t 8 = .int .i64 (P.length : Int) ∧ t 9 = .int .i64 (r : Int) ∧ t 24 = sq ∧ RowKit.Below w9.heap.size w9 w' ∧ ∃ i : Nat, t 27 = .int .i64 (i : Int) ∧ i ≤ P.length ∧ t 26 = .int .i64 ((offs q (nth (xsP P)) (nth Y) i).length : Int)) (fun t _ => P.length - (toI (t 27)).toNat)
    ⟨by simp only [WS, ↓reduceIte, Nat.reduceEqDiff, reduceCtorEq]; exact t1, by simp only [WS, ↓reduceIte, Nat.reduceEqDiff, reduceCtorEq]; exact t2, by simp only [WS, ↓reduceIte, Nat.reduceEqDiff, reduceCtorEq]; exact t8, by simp only [WS, ↓reduceIte, Nat.reduceEqDiff, reduceCtorEq]; exact t9, by simp only [WS, ↓reduceIte, Nat.reduceEqDiff, reduceCtorEq], RowKit.Below.refl _ _, 0, by simp only [WS, ↓reduceIte, Nat.reduceEqDiff, reduceCtorEq]; rfl, by omega, by simp only [WS, ↓reduceIte, Nat.reduceEqDiff, reduceCtorEq]; rfl⟩ ?_
  clear t0 t1 t2 t8 t9 t18 t20 t21 t23
  rintro t w10 ⟨t1, t2, t8, t9, t24, E2, i2, t27, hi2, t26⟩
  have holen : (offs q (nth (xsP P)) (nth Y) i2).length ≤ i2 := by
    unfold offs
    have := List.length_filter_le (fun j => !decide (evl q (nth (xsP P) j) = nth Y j)) (List.range i2)
    rwa [List.length_range] at this
  have oq10 := oq.up E2
  by_cases hin : i2 < P.length
  rotate_left
  · obtain rfl : i2 = P.length := by omega
    by_cases hok : (offs q (nth (xsP P)) (nth Y) P.length).length ≤ r
    · simp (maxSteps := 1000000) (disch := omega) only [WS, ↓reduceIte, Nat.reduceEqDiff, reduceCtorEq, AS, t1, t2, t8, t9, t24, t27, t26]
      exact ⟨B.trans (E2.mono B.size), Or.inl ⟨sq, q, rfl, oq10.mono (by omega), tq, by omega, hok⟩⟩
    · simp (maxSteps := 1000000) (disch := omega) only [WS, ↓reduceIte, Nat.reduceEqDiff, reduceCtorEq, AS, t1, t2, t8, t9, t24, t27, t26]
      refine ⟨B.trans (E2.mono B.size), Or.inr ⟨_, rfl, fun g tg hg => Nat.lt_of_not_le fun ho => ?_⟩⟩
      have := (hun g tg hg ho).1
      rw [← this] at ho
      exact hok ho
  have iY : i2 < Y.length := by omega
  obtain ⟨a1, a2, -⟩ := ha i2 hin hin
  obtain ⟨pn, hpn⟩ : ∃ p : Nat, P[i2] = (p : Int) := ⟨P[i2].toNat, by omega⟩
  have hxi : nth (xsP P) i2 = en8 pn := by
    rw [nth_get (by rw [xsP_len]; exact hin), xsP_get P (by rw [xsP_len]; exact hin) hin, hpn]; rfl
  simp (maxSteps := 1000000) (disch := omega) only [WS, ↓reduceIte, Nat.reduceEqDiff, reduceCtorEq, AS, t1, t2, t8, t9, t24, t27, t26]
  refine WP_dops ?_
  have bd := bel_drew w10
  have E2 := E2.trans (bd.mono E2.size)
  have oq11 := oq10.up bd
  clear bd
  have h1' := h1.up E2
  have h2' := h2.up E2
  have see : Fw.sees Try.prog (.ld (.c (elP s2 i2))) w10.drew (.int .u8 (Y[i2].v.toNat : Int)) = True := h2'.sees iY Try.prog
  simp (maxSteps := 1000000) (disch := omega) only [ES, List.mem_cons, List.not_mem_nil, implies_true, forall_const, WS, ↓reduceIte, Nat.reduceEqDiff, reduceCtorEq, AS, t1, t2, t8, t9, t24, t27, t26, h1'.Eix hin, h1'.Eld hin, cell_int, hpn]
  refine E_call0 ((culletref19_value_spec w10.drew sq q pn (by omega) oq11.sl (by omega)).mono ?_)
  rintro _ w11 ⟨rfl, rfl⟩
  have hoff : offs q (nth (xsP P)) (nth Y) (i2 + 1) = offs q (nth (xsP P)) (nth Y) i2 ++ if evl q (nth (xsP P) i2) = nth Y i2 then [] else [i2] := by
    unfold offs
    rw [List.range_succ, List.filter_append]
    congr 1
    by_cases h : evl q (nth (xsP P) i2) = nth Y i2 <;> simp [h]
  rw [hxi, nth_get iY] at hoff
  by_cases heq : evl q (en8 pn) = Y[i2]
  · rw [if_pos heq, List.append_nil] at hoff
    simp (maxSteps := 1000000) (disch := omega) only [ES, List.mem_cons, List.not_mem_nil, implies_true, forall_const, WS, ↓reduceIte, Nat.reduceEqDiff, reduceCtorEq, AS, t1, t2, t8, t9, t24, t27, t26, h2'.Eix iY, h2'.Eld iY, cell_e8, see, heq, ne_eq, not_true_eq_false, decide_false]
    exact ⟨⟨E2, i2 + 1, rfl, by omega, by rw [hoff]⟩, by omega⟩
  · rw [if_neg heq] at hoff
    have hne : ((evl q (en8 pn)).v.toNat : Int) ≠ (Y[i2].v.toNat : Int) := fun e => heq (El.ext (BitVec.eq_of_toNat_eq (by omega)))
    simp (maxSteps := 1000000) (disch := omega) only [ES, List.mem_cons, List.not_mem_nil, implies_true, forall_const, WS, ↓reduceIte, Nat.reduceEqDiff, reduceCtorEq, AS, t1, t2, t8, t9, t24, t27, t26, h2'.Eix iY, h2'.Eld iY, cell_e8, see, decide_eq_true hne]
    refine ⟨⟨E2, i2 + 1, rfl, by omega, ?_⟩, by omega⟩
    rw [hoff, List.length_append, List.length_singleton]
end Go.Proofs.Ytbaljbadlfopgaa.Fw
