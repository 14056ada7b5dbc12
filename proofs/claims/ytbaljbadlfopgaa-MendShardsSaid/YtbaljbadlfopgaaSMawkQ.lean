import Derived.Test.YtbaljbadlfopgaaProg
import Derived.Test.YtbaljbadlfopgaaFwTQ
import Derived.Test.YtbaljbadlfopgaaSMrfQ
import Derived.Test.YtbaljbadlfopgaaGfWQ
import Derived.Test.YtbaljbadlfopgaaSMndQ
import Derived.Test.YtbaljbadlfopgaaSMsQ
set_option linter.all false
set_option linter.unusedVariables false
set_option linter.unusedSimpArgs false
set_option maxRecDepth 100000
set_option maxHeartbeats 1000000
namespace Go.Proofs.Ytbaljbadlfopgaa.Fw
open Go Go.Fw Go.Proofs
attribute [local irreducible] stepI
end Go.Proofs.Ytbaljbadlfopgaa.Fw
namespace Go.Proofs.Ytbaljbadlfopgaa.Fw
open Go Go.Fw
theorem asc_dist {P : List Int} {xs : List (El 8)} (h : asc P P.length) (hl : xs.length = P.length) (hv : ∀ i (hi : i < xs.length) (hi' : i < P.length), ((xs[i].v.toNat : Nat) : Int) = P[i]) : ∀ a b, a < xs.length → b < xs.length → nth xs a = nth xs b → a = b := fun a b ha hb e => by
  rw [nth_get ha, nth_get hb] at e
  have e1 := hv a ha (by omega)
  have e2 := hv b hb (by omega)
  rw [e] at e1
  rcases Nat.lt_trichotomy a b with h1 | h1 | h1
  · have := (h b (by omega) (by omega)).2.2 a (by omega) h1
    omega
  · exact h1
  · have := (h a (by omega) (by omega)).2.2 b (by omega) h1
    omega
end Go.Proofs.Ytbaljbadlfopgaa.Fw

/- Values of a polynomial, spoilt in places: what interpolates them, and what is near. -/
set_option linter.unusedVariables false
set_option linter.unusedSimpArgs false
namespace Go.Fw
open Go
section
variable {n : Nat} [F : Fd n]
theorem nw_uniq {X Y : Nat → El n} {N : Nat} (hX : ∀ a b, a < N → b < N → X a = X b → a = b) {f : Ps n} (hd : Dg f N) (h : ∀ j, j < N → evn f (X j) N = Y j) : f = nw X Y 0 N := by
  refine Ps.eq_of_add (zero_of X 0 N (hd.add (nw_dg X Y 0 N)) (fun a b ha hb e => hX a b ha hb (by simpa using e)) fun j hj => ?_)
  rw [evn_add, nw_ev X Y N hX N 0 (by omega) j hj, Nat.zero_add, h j hj, El.add_self]
/-- The places of what is not 0. -/
def wr (M : Nat → El n) (N : Nat) : List Nat := (List.range N).filter fun j => !decide (M j = 0)
end
end Go.Fw

set_option linter.unusedVariables false
set_option linter.unusedSimpArgs false
set_option maxRecDepth 100000
set_option maxHeartbeats 1000000
namespace Go.Proofs.Ytbaljbadlfopgaa.Fw
open Go Go.Fw Go.Proofs
attribute [local irreducible] stepI
def c_mend_Column : C := .seq (.ops [⟨0,some 6,none,.mov (.c (.slice none 0 0)),[]⟩,⟨1,some 7,none,.mov (.c (.slice none 0 0)),[]⟩,⟨2,some 8,none,.mov (.c (.int .i64 0)),[]⟩]) (.seq (.ops [⟨0,some 19,none,.mov (.t 0),[]⟩,⟨1,some 20,none,.mov (.t 1),[]⟩,⟨2,some 21,none,.mov (.t 2),[]⟩,⟨3,some 22,none,.call (.c (.func (.func 54) #[] #[])) [.t 19,.t 20,.t 21],[]⟩,⟨4,some 18,none,.mov (.t 22),[]⟩,⟨5,some 23,none,.ext (.t 18) 0,[]⟩,⟨6,some 24,none,.ext (.t 18) 1,[]⟩,⟨7,some 9,none,.mov (.t 23),[]⟩,⟨8,some 8,none,.mov (.t 24),[]⟩]) (.seq (.seq (.ops [⟨0,some 25,none,.mov (.t 8),[]⟩,⟨1,some 26,none,.bin .neq (.t 25) (.c (.int .i64 0)),[]⟩]) (.ite (.t 26) (.seq (.ops [⟨0,some 27,none,.mov (.t 8),[]⟩,⟨1,some 6,none,.mov (.c (.slice none 0 0)),[]⟩,⟨2,some 7,none,.mov (.c (.slice none 0 0)),[]⟩,⟨3,some 8,none,.mov (.t 27),[]⟩]) .ret) .skip)) (.seq (.ops [⟨0,some 28,none,.mov (.t 0),[]⟩,⟨1,some 29,none,.mov (.t 9),[]⟩,⟨2,some 30,none,.call (.c (.func (.func 57) #[] #[])) [.t 28,.t 29],[]⟩,⟨3,some 10,none,.mov (.t 30),[]⟩]) (.seq (.ops [⟨0,some 32,none,.mov (.t 10),[]⟩,⟨1,some 33,none,.mov (.t 2),[]⟩,⟨2,some 34,none,.call (.c (.func (.func 58) #[] #[])) [.t 32,.t 33],[]⟩,⟨3,some 31,none,.mov (.t 34),[]⟩,⟨4,some 35,none,.ext (.t 31) 0,[]⟩,⟨5,some 36,none,.ext (.t 31) 1,[]⟩,⟨6,some 37,none,.ext (.t 31) 2,[]⟩,⟨7,some 11,none,.mov (.t 35),[]⟩,⟨8,some 12,none,.mov (.t 36),[]⟩,⟨9,some 13,none,.mov (.t 37),[]⟩]) (.seq (.seq (.ops [⟨0,some 38,none,.mov (.t 13),[]⟩,⟨1,some 39,none,.un .not (.t 38),[]⟩]) (.ite (.t 39) (.seq (.ops [⟨0,some 6,none,.mov (.c (.slice none 0 0)),[]⟩,⟨1,some 7,none,.mov (.c (.slice none 0 0)),[]⟩,⟨2,some 8,none,.mov (.c (.int .i64 190)),[]⟩]) .ret) .skip)) (.seq (.seq (.ops [⟨0,some 40,none,.mov (.t 9),[]⟩,⟨1,some 41,none,.len (.t 40),[]⟩,⟨2,some 42,none,.mov (.c (.int .i64 0)),[]⟩]) (.block 0 (.loop (.seq (.ops [⟨0,some 43,none,.bin .lss (.t 42) (.t 41),[]⟩]) (.seq (.ite (.t 43) .skip (.exit 0)) (.seq (.block 1 (.seq (.ops [⟨0,some 44,none,.ixs 1 (.t 40) (.t 42),[]⟩,⟨1,some 45,none,.ld (.t 44),[]⟩,⟨2,some 15,none,.mov (.t 45),[]⟩]) (.ops [⟨0,some 46,none,.mov (.t 6),[]⟩,⟨1,some 47,none,.mov (.t 10),[]⟩,⟨2,some 48,none,.nil (.t 47),[]⟩,⟨3,some 49,none,.fad 0 (.t 48),[]⟩,⟨4,some 50,none,.ld (.t 49),[]⟩,⟨5,some 51,none,.mov (.t 11),[]⟩,⟨6,some 52,none,.mov (.t 15),[]⟩,⟨7,some 53,none,.call (.c (.func (.func 59) #[] #[])) [.t 50,.t 51,.t 52],[]⟩,⟨8,some 54,none,.bsl 5 1 [.int .u8 0] [(0,(1,.t 53))],[]⟩,⟨9,some 55,none,.app 5 1 [.int .u8 0] (.t 46) (.t 54),[]⟩,⟨10,some 6,none,.mov (.t 55),[]⟩]))) (.ops [⟨0,some 56,none,.bin .add (.t 42) (.c (.int .i64 1)),[]⟩,⟨1,some 42,none,.mov (.t 56),[]⟩]))))))) (.seq (.seq (.ops [⟨0,some 57,none,.mov (.t 12),[]⟩,⟨1,some 58,none,.len (.t 57),[]⟩,⟨2,some 59,none,.mov (.c (.int .i64 0)),[]⟩]) (.block 2 (.loop (.seq (.ops [⟨0,some 60,none,.bin .lss (.t 59) (.t 58),[]⟩]) (.seq (.ite (.t 60) .skip (.exit 2)) (.seq (.block 3 (.seq (.ops [⟨0,some 61,none,.ixs 1 (.t 57) (.t 59),[]⟩,⟨1,some 62,none,.ld (.t 61),[]⟩,⟨2,some 17,none,.mov (.t 62),[]⟩]) (.ops [⟨0,some 63,none,.mov (.t 7),[]⟩,⟨1,some 64,none,.mov (.t 1),[]⟩,⟨2,some 65,none,.mov (.t 17),[]⟩,⟨3,some 66,none,.ixs 1 (.t 64) (.t 65),[]⟩,⟨4,some 67,none,.ld (.t 66),[]⟩,⟨5,some 68,none,.bsl 3 1 [.int .i64 0] [(0,(1,.t 67))],[]⟩,⟨6,some 69,none,.app 3 8 [.int .i64 0] (.t 63) (.t 68),[]⟩,⟨7,some 7,none,.mov (.t 69),[]⟩]))) (.ops [⟨0,some 70,none,.bin .add (.t 59) (.c (.int .i64 1)),[]⟩,⟨1,some 59,none,.mov (.t 70),[]⟩]))))))) (.seq (.ops [⟨0,some 71,none,.mov (.t 6),[]⟩,⟨1,some 72,none,.mov (.t 7),[]⟩,⟨2,some 6,none,.mov (.t 71),[]⟩,⟨3,some 7,none,.mov (.t 72),[]⟩,⟨4,some 8,none,.mov (.c (.int .i64 0)),[]⟩]) .ret))))))))
attribute [irreducible] c_mend_Column
theorem run_mend_Column {args : List Value} {w : World} {K : Value → World → Prop} (hn : args.length ≤ 73) (h : WP Try.prog c_mend_Column (endQ [.t 6, .t 7, .t 8] K) (initT args) w) : CallV Try.prog 19 args w K :=
  call_of follows Try.func19 (by kernel_rfl) (by kernel_rfl) hn h
end Go.Proofs.Ytbaljbadlfopgaa.Fw
namespace Go.Proofs.Ytbaljbadlfopgaa.Fw
open Go Go.Fw
/-- The points as elements. -/
def xsP (P : List Int) : List (El 8) := P.map fun p => en8 p.toNat
theorem xsP_len (P : List Int) : (xsP P).length = P.length := List.length_map ..
theorem xsP_get (P : List Int) {i : Nat} (hi : i < (xsP P).length) (hi' : i < P.length) : (xsP P)[i] = en8 P[i].toNat := List.getElem_map ..
theorem xsP_val {P : List Int} (h : asc P P.length) : ∀ i (hi : i < (xsP P).length) (hi' : i < P.length), (((xsP P)[i].v.toNat : Nat) : Int) = P[i] := fun i hi hi' => by
  obtain ⟨h1, h2, -⟩ := h i hi' hi'
  rw [xsP_get P hi hi', en8_v (by omega)]
  omega
theorem xsP_uniq {P : List Int} {xs : List (El 8)} (h : asc P P.length) (hl : xs.length = P.length) (hv : ∀ i (hi : i < xs.length) (hi' : i < P.length), ((xs[i].v.toNat : Nat) : Int) = P[i]) : xs = xsP P := List.ext_getElem (by rw [xsP_len, hl]) fun i h1 h2 => by
  have a1 := hv i h1 (by omega)
  have a2 := xsP_val h i h2 (by omega)
  exact El.ext (BitVec.eq_of_toNat_eq (by omega))
theorem xsP_dist {P : List Int} (h : asc P P.length) : ∀ a b, a < P.length → b < P.length → nth (xsP P) a = nth (xsP P) b → a = b := by
  have := asc_dist h (xsP_len P) (xsP_val h)
  rwa [xsP_len] at this
/-- The places that are wrong. -/
def offP (g : List (El 8)) (P : List Int) (Y : List (El 8)) : List Nat := offs g (nth (xsP P)) (nth Y) P.length
theorem mend_Column_spec (w : World) (k : Int) (s1 s2 : Value) (P : List Int) (Y : List (El 8)) (h1 : Sl w s1 P) (h2 : Sl w s2 Y) (hP : P.length ≤ 70368744175616) (hY : Y.length ≤ 140737488355328) :
    CallV Try.prog 19 [.int .i64 k, s1, s2] w fun v w' => RowKit.Below w.heap.size w w' ∧
      (((k < 1 ∨ k > 256 ∨ P.length > 256) ∧ v = .tuple #[.slice none 0 0, .slice none 0 0, .int .i64 4]) ∨
       (¬ (k < 1 ∨ k > 256 ∨ P.length > 256) ∧ ¬ asc P P.length ∧ v = .tuple #[.slice none 0 0, .slice none 0 0, .int .i64 110]) ∨
       (¬ (k < 1 ∨ k > 256 ∨ P.length > 256) ∧ asc P P.length ∧ Y.length ≠ P.length ∧ v = .tuple #[.slice none 0 0, .slice none 0 0, .int .i64 6]) ∨
       (¬ (k < 1 ∨ k > 256 ∨ P.length > 256) ∧ asc P P.length ∧ Y.length = P.length ∧ (P.length : Int) < k ∧ v = .tuple #[.slice none 0 0, .slice none 0 0, .int .i64 9]) ∨
       (¬ (k < 1 ∨ k > 256 ∨ P.length > 256) ∧ asc P P.length ∧ Y.length = P.length ∧ ¬ (P.length : Int) < k ∧
         ((∃ (sf so : Value) (g : List (El 8)), v = .tuple #[sf, so, .int .i64 0] ∧ Ow w.heap.size w' sf ((xsP P).map (evl g)) ∧ Ow w.heap.size w' so ((offP g P Y).map fun j => P.getD j 0) ∧ tr g = g ∧ g.length ≤ k.toNat ∧ (offP g P Y).length ≤ (P.length - k.toNat) / 2) ∨
          (v = .tuple #[.slice none 0 0, .slice none 0 0, .int .i64 190] ∧ ∀ g, tr g = g → g.length ≤ k.toNat → (P.length - k.toNat) / 2 < (offP g P Y).length)))) := by
  refine run_mend_Column (by simp) ?_
  simp only [c_mend_Column, WS, ↓reduceIte, Nat.reduceEqDiff, reduceCtorEq]
  refine X_call0 ((mend_refuses_spec w k s1 s2 P Y h1 h2 hP hY).mono ?_)
  rintro vv w1 ⟨B, ⟨g1, rfl⟩ | ⟨g1, g2, rfl⟩ | ⟨g1, g2, g3, rfl⟩ | ⟨g1, g2, g3, g4, rfl⟩ | ⟨g1, g2, g3, g4, s, xs, rfl, oxs, hxl, hxv⟩⟩
  · simp (maxSteps := 1000000) (disch := omega) only [WS, ↓reduceIte, Nat.reduceEqDiff, reduceCtorEq, AS, show decide ((4 : Int) ≠ 0) = true from rfl]
    exact ⟨B, Or.inl g1⟩
  · simp (maxSteps := 1000000) (disch := omega) only [WS, ↓reduceIte, Nat.reduceEqDiff, reduceCtorEq, AS, show decide ((110 : Int) ≠ 0) = true from rfl]
    exact ⟨B, Or.inr (Or.inl ⟨g1, g2⟩)⟩
  · simp (maxSteps := 1000000) (disch := omega) only [WS, ↓reduceIte, Nat.reduceEqDiff, reduceCtorEq, AS, show decide ((6 : Int) ≠ 0) = true from rfl]
    exact ⟨B, Or.inr (Or.inr (Or.inl ⟨g1, g2, g3⟩))⟩
  · simp (maxSteps := 1000000) (disch := omega) only [WS, ↓reduceIte, Nat.reduceEqDiff, reduceCtorEq, AS, show decide ((9 : Int) ≠ 0) = true from rfl]
    exact ⟨B, Or.inr (Or.inr (Or.inr (Or.inl ⟨g1, g2, g3, g4⟩)))⟩
  obtain ⟨K, rfl⟩ : ∃ K : Nat, k = (K : Int) := ⟨k.toNat, by omega⟩
  obtain rfl : xs = xsP P := xsP_uniq g2 hxl hxv
  have h1 := h1.up B
  have h2 := h2.up B
  have oxs := oxs.sl
  clear hxv
  simp (maxSteps := 1000000) (disch := omega) only [WS, ↓reduceIte, Nat.reduceEqDiff, reduceCtorEq, AS, show decide ((0 : Int) ≠ 0) = false from rfl]
  refine X_call0 ((mend_newDecoder_spec w1 K s (xsP P) oxs (by omega)).mono ?_)
  rintro d w2 ⟨hD, hB⟩
  have h1 := h1.up hB
  have h2 := h2.up hB
  have oxs := oxs.up hB
  have B := B.trans (hB.mono B.size)
  clear hB
  simp (maxSteps := 1000000) (disch := omega) only [WS, ↓reduceIte, Nat.reduceEqDiff, reduceCtorEq, AS]
  refine X_call0 ((mend_decoder_near_spec w2 d s2 K (xsP P) Y hD h2 (by omega) (by omega) (by omega) (by omega) (by rw [xsP_len]; exact xsP_dist g2)).mono ?_)
  rw [xsP_len]
  rintro _ w3 ⟨hB, ⟨sf, so, g, rfl, of, oo, tg, hgk, hon⟩ | ⟨sf, so, rfl, -, hfar⟩⟩
  rotate_left
  · have B := B.trans (hB.mono B.size)
    clear hB
    simp (maxSteps := 1000000) (disch := omega) only [WS, ↓reduceIte, Nat.reduceEqDiff, reduceCtorEq, AS]
    refine ⟨B, Or.inr (Or.inr (Or.inr (Or.inr ⟨g1, g2, g3, g4, Or.inr fun g tg hg => ?_⟩)))⟩
    rw [Int.toNat_natCast] at hg ⊢
    exact hfar g tg hg
  have hD := hD.up hB
  have h1 := h1.up hB
  have h2 := h2.up hB
  have oxs := oxs.up hB
  have B := B.trans (hB.mono B.size)
  clear hB
  have of := of.sl
  have oo := oo.sl
  have hB3 := B.size
  obtain ⟨bo, r, sx, sa, A, rfl, hro, hr, -⟩ := hD
  simp (maxSteps := 1000000) (disch := omega) only [WS, ↓reduceIte, Nat.reduceEqDiff, reduceCtorEq, AS, oxs.Xlen]
  refine loop_of (fun t w' => t 1 = s1 ∧ t 10 = .pointer (some ⟨bo, 0, none⟩) ∧ t 11 = sf ∧ t 12 = so ∧ t 40 = s ∧ t 41 = .int .i64 ((xsP P).length : Int) ∧ t 7 = .slice none 0 0 ∧ RowKit.Below w3.heap.size w3 w' ∧ ∃ (i : Nat) (sF : Value), t 42 = .int .i64 (i : Int) ∧ i ≤ P.length ∧ t 6 = sF ∧ Ow w3.heap.size w' sF (((xsP P).take i).map (evl g))) (fun t _ => P.length - (toI (t 42)).toNat)
    ⟨by simp only [WS, ↓reduceIte, Nat.reduceEqDiff, reduceCtorEq], by simp only [WS, ↓reduceIte, Nat.reduceEqDiff, reduceCtorEq], by simp only [WS, ↓reduceIte, Nat.reduceEqDiff, reduceCtorEq], by simp only [WS, ↓reduceIte, Nat.reduceEqDiff, reduceCtorEq], by simp only [WS, ↓reduceIte, Nat.reduceEqDiff, reduceCtorEq], by simp only [WS, ↓reduceIte, Nat.reduceEqDiff, reduceCtorEq], by simp only [WS, ↓reduceIte, Nat.reduceEqDiff, reduceCtorEq], RowKit.Below.refl _ _, 0, .slice none 0 0, by simp only [WS, ↓reduceIte, Nat.reduceEqDiff, reduceCtorEq]; rfl, by omega, by simp only [WS, ↓reduceIte, Nat.reduceEqDiff, reduceCtorEq], Or.inl ⟨rfl, rfl⟩⟩ ?_
  rintro t w4 ⟨t1, t10, t11, t12, t40, t41, t7, C, i, sF, t42, hi, t6, oF⟩
  have hFl : (((xsP P).take i).map (evl g)).length = i := by rw [List.length_map, List.length_take, xsP_len]; omega
  by_cases hin : i < P.length
  · have hix : i < (xsP P).length := by rw [xsP_len]; exact hin
    have ox := oxs.up C
    have hro4 := hro.up C
    simp (maxSteps := 1000000) (disch := omega) only [WS, ↓reduceIte, Nat.reduceEqDiff, reduceCtorEq, AS, t1, t10, t11, t12, t40, t41, t7, t6, t42, ox.Xix hix, ox.Xld hix, cell_e8, hro4.Xld (show 0 < _ by simp)]
    refine X_call0 ((polys_Ring_b_Eval_spec w4 r sf g (xsP P)[i] (hr.up C) (of.up C) (by omega)).mono ?_)
    rintro _ w5 ⟨rfl, hB⟩
    have oF := oF.up hB
    have C := C.trans (hB.mono C.size)
    clear hB
    simp (maxSteps := 1000000) (disch := omega) only [WS, ↓reduceIte, Nat.reduceEqDiff, reduceCtorEq, AS, t1, t10, t11, t12, t40, t41, t7, t6, t42]
    refine X_bsl (zs := [evl g (xsP P)[i]]) (by rfl) (by rfl) fun e0 w6 oe hB => ?_
    have oe := oe.sl
    have oF := oF.up hB
    have C := C.trans (hB.mono C.size)
    clear hB
    simp (maxSteps := 1000000) (disch := omega) only [WS, ↓reduceIte, Nat.reduceEqDiff, reduceCtorEq, AS, t1, t10, t11, t12, t40, t41, t7, t6, t42]
    refine Ow.Xapp oF oe C.size (by rw [hFl]; simp only [List.length_singleton, maxBytes]; omega) (by rw [hFl]; simp only [List.length_singleton]; omega) fun e1 w7 oF2 hg _ => ?_
    have C := Below.app C C.size hg fun b hb => (oF.blk b hb).1
    simp (maxSteps := 1000000) (disch := omega) only [WS, ↓reduceIte, Nat.reduceEqDiff, reduceCtorEq, AS, t1, t10, t11, t12, t40, t41, t7, t42]
    refine ⟨⟨C, i + 1, e1, rfl, by omega, rfl, ?_⟩, by omega⟩
    rw [List.take_succ_eq_append_getElem hix, List.map_append]
    exact oF2
  obtain rfl : i = P.length := by omega
  rw [List.take_of_length_le (by rw [xsP_len]; exact Nat.le_refl _)] at oF hFl
  obtain ⟨O, hO⟩ : ∃ O, O = offs g (nth (xsP P)) (nth Y) P.length := ⟨_, rfl⟩
  have hm : ∀ x ∈ O, x < P.length := fun x hx => by rw [hO] at hx; exact (offs_mem.1 hx).1
  have hOm : ∀ j (hj : j < O.length), O[j] < P.length := fun j hj => hm _ (List.getElem_mem hj)
  rw [← hO] at oo hon
  have hOl : (O.map fun (n : Nat) => (n : Int)).length = O.length := List.length_map ..
  have h1 := h1.up C
  have oo := oo.up C
  clear hro hr
  simp (maxSteps := 1000000) (disch := omega) only [WS, ↓reduceIte, Nat.reduceEqDiff, reduceCtorEq, AS, t1, t10, t11, t12, t40, t41, t7, t6, t42, oo.Xlen]
  refine loop_of (fun t w' => t 1 = s1 ∧ t 6 = sF ∧ t 57 = so ∧ t 58 = .int .i64 (O.length : Int) ∧ RowKit.Below w4.heap.size w4 w' ∧ ∃ (i : Nat) (sW : Value), t 59 = .int .i64 (i : Int) ∧ i ≤ O.length ∧ t 7 = sW ∧ Ow w4.heap.size w' sW ((O.take i).map fun j => P.getD j 0)) (fun t _ => O.length - (toI (t 59)).toNat)
    ⟨by simp only [WS, ↓reduceIte, Nat.reduceEqDiff, reduceCtorEq]; exact t1, by simp only [WS, ↓reduceIte, Nat.reduceEqDiff, reduceCtorEq]; exact t6, by simp only [WS, ↓reduceIte, Nat.reduceEqDiff, reduceCtorEq], by rw [← hOl]; simp only [WS, ↓reduceIte, Nat.reduceEqDiff, reduceCtorEq], RowKit.Below.refl _ _, 0, .slice none 0 0, by simp only [WS, ↓reduceIte, Nat.reduceEqDiff, reduceCtorEq]; rfl, by omega, by simp only [WS, ↓reduceIte, Nat.reduceEqDiff, reduceCtorEq]; exact t7, Or.inl ⟨rfl, rfl⟩⟩ ?_
  clear t1 t10 t11 t12 t40 t41 t7 t6 t42
  rintro t w5 ⟨t1, t6, t57, t58, D, i, sW, t59, hi, t7, oW⟩
  have hWl : ((O.take i).map fun j => P.getD j 0).length = i := by rw [List.length_map, List.length_take]; omega
  by_cases hin : i < O.length
  · have hix : i < (O.map fun (n : Nat) => (n : Int)).length := by omega
    have oo := oo.up D
    have h1 := h1.up D
    have hp := hOm i hin
    have ev : (O.map fun (n : Nat) => (n : Int))[i] = (O[i] : Int) := List.getElem_map ..
    simp (maxSteps := 1000000) (disch := omega) only [WS, ↓reduceIte, Nat.reduceEqDiff, reduceCtorEq, AS, t1, t6, t57, t58, t59, t7, oo.Xix hix, oo.Xld hix, cell_int, ev, h1.Xix hp, h1.Xld hp]
    refine X_bsl (zs := [P[O[i]]]) (by rfl) (by rfl) fun e0 w6 oe hB => ?_
    have oe := oe.sl
    have oW := oW.up hB
    have D := D.trans (hB.mono D.size)
    clear hB
    simp (maxSteps := 1000000) (disch := omega) only [WS, ↓reduceIte, Nat.reduceEqDiff, reduceCtorEq, AS, t1, t6, t57, t58, t59, t7]
    refine Ow.Xapp oW oe D.size (by rw [hWl]; simp only [List.length_singleton, maxBytes]; omega) (by rw [hWl]; simp only [List.length_singleton]; omega) fun e1 w7 oW2 hg _ => ?_
    have D := Below.app D D.size hg fun b hb => (oW.blk b hb).1
    simp (maxSteps := 1000000) (disch := omega) only [WS, ↓reduceIte, Nat.reduceEqDiff, reduceCtorEq, AS, t1, t6, t57, t58, t59]
    refine ⟨⟨D, i + 1, e1, rfl, by omega, rfl, ?_⟩, by omega⟩
    rw [List.take_succ_eq_append_getElem hin, List.map_append]
    have : P.getD O[i] 0 = P[O[i]] := by rw [List.getD_eq_getElem?_getD, List.getElem?_eq_getElem hp]; rfl
    simp only [List.map_cons, List.map_nil, this]
    exact oW2
  obtain rfl : i = O.length := by omega
  rw [List.take_of_length_le (Nat.le_refl _)] at oW
  simp (maxSteps := 1000000) (disch := omega) only [WS, ↓reduceIte, Nat.reduceEqDiff, reduceCtorEq, AS, t1, t6, t57, t58, t59, t7]
  have hoe : offP g P Y = O := hO.symm
  refine ⟨(B.trans (C.mono hB3)).trans (D.mono (Nat.le_trans hB3 C.size)), Or.inr (Or.inr (Or.inr (Or.inr ⟨g1, g2, g3, g4, Or.inl ⟨sF, sW, g, rfl, (oF.up D).mono hB3, ?_, tg, hgk, ?_⟩⟩)))⟩
  · rw [hoe]; exact oW.mono (Nat.le_trans hB3 C.size)
  · rw [hoe]; exact hon
end Go.Proofs.Ytbaljbadlfopgaa.Fw

set_option linter.unusedVariables false
set_option linter.unusedSimpArgs false
set_option maxRecDepth 100000
set_option maxHeartbeats 1000000
namespace Go.Proofs.Ytbaljbadlfopgaa.Fw
open Go Go.Fw Go.Proofs
attribute [local irreducible] stepI
def c_culletlaw19_sameBytes : C := .seq (.ops [⟨0,some 4,none,.mov (.c (.bool false)),[]⟩]) (.seq (.seq (.ops [⟨0,some 6,none,.mov (.t 0),[]⟩,⟨1,some 7,none,.len (.t 6),[]⟩,⟨2,some 8,none,.mov (.t 1),[]⟩,⟨3,some 9,none,.len (.t 8),[]⟩,⟨4,some 10,none,.bin .neq (.t 7) (.t 9),[]⟩]) (.ite (.t 10) (.seq (.ops [⟨0,some 4,none,.mov (.c (.bool false)),[]⟩]) .ret) .skip)) (.seq (.seq (.ops [⟨0,some 5,none,.mov (.c (.int .i64 0)),[]⟩]) (.block 0 (.loop (.seq (.seq (.ops [⟨0,some 11,none,.mov (.t 5),[]⟩,⟨1,some 12,none,.mov (.t 0),[]⟩,⟨2,some 13,none,.len (.t 12),[]⟩,⟨3,some 14,none,.bin .lss (.t 11) (.t 13),[]⟩]) (.ite (.t 14) .skip (.exit 0))) (.seq (.block 1 (.seq (.dops [⟨0,some 17,none,.mov (.t 0),[]⟩,⟨1,some 18,none,.mov (.t 5),[]⟩,⟨2,some 19,none,.ixs 1 (.t 17) (.t 18),[]⟩,⟨3,some 20,none,.ld (.t 19),[]⟩,⟨4,some 21,none,.mov (.t 1),[]⟩,⟨5,some 22,none,.mov (.t 5),[]⟩,⟨6,some 23,none,.ixs 1 (.t 21) (.t 22),[]⟩,⟨7,some 24,none,.ld (.t 23),[]⟩,⟨8,some 25,none,.bin .neq (.t 20) (.t 24),[]⟩]) (.ite (.t 25) (.seq (.ops [⟨0,some 4,none,.mov (.c (.bool false)),[]⟩]) .ret) .skip))) (.ops [⟨0,some 15,none,.mov (.t 5),[]⟩,⟨1,some 16,none,.bin .add (.t 15) (.c (.int .i64 1)),[]⟩,⟨2,some 5,none,.mov (.t 16),[]⟩])))))) (.seq (.ops [⟨0,some 4,none,.mov (.c (.bool true)),[]⟩]) .ret)))
attribute [irreducible] c_culletlaw19_sameBytes
theorem run_culletlaw19_sameBytes {args : List Value} {w : World} {K : Value → World → Prop} (hn : args.length ≤ 26) (h : WP Try.prog c_culletlaw19_sameBytes (endQ [.t 4] K) (initT args) w) : CallV Try.prog 17 args w K :=
  call_of follows Try.func17 (by kernel_rfl) (by kernel_rfl) hn h
def c_culletlaw19_sameInts : C := .seq (.ops [⟨0,some 4,none,.mov (.c (.bool false)),[]⟩]) (.seq (.seq (.ops [⟨0,some 6,none,.mov (.t 0),[]⟩,⟨1,some 7,none,.len (.t 6),[]⟩,⟨2,some 8,none,.mov (.t 1),[]⟩,⟨3,some 9,none,.len (.t 8),[]⟩,⟨4,some 10,none,.bin .neq (.t 7) (.t 9),[]⟩]) (.ite (.t 10) (.seq (.ops [⟨0,some 4,none,.mov (.c (.bool false)),[]⟩]) .ret) .skip)) (.seq (.seq (.ops [⟨0,some 5,none,.mov (.c (.int .i64 0)),[]⟩]) (.block 0 (.loop (.seq (.seq (.ops [⟨0,some 11,none,.mov (.t 5),[]⟩,⟨1,some 12,none,.mov (.t 0),[]⟩,⟨2,some 13,none,.len (.t 12),[]⟩,⟨3,some 14,none,.bin .lss (.t 11) (.t 13),[]⟩]) (.ite (.t 14) .skip (.exit 0))) (.seq (.block 1 (.seq (.dops [⟨0,some 17,none,.mov (.t 0),[]⟩,⟨1,some 18,none,.mov (.t 5),[]⟩,⟨2,some 19,none,.ixs 1 (.t 17) (.t 18),[]⟩,⟨3,some 20,none,.ld (.t 19),[]⟩,⟨4,some 21,none,.mov (.t 1),[]⟩,⟨5,some 22,none,.mov (.t 5),[]⟩,⟨6,some 23,none,.ixs 1 (.t 21) (.t 22),[]⟩,⟨7,some 24,none,.ld (.t 23),[]⟩,⟨8,some 25,none,.bin .neq (.t 20) (.t 24),[]⟩]) (.ite (.t 25) (.seq (.ops [⟨0,some 4,none,.mov (.c (.bool false)),[]⟩]) .ret) .skip))) (.ops [⟨0,some 15,none,.mov (.t 5),[]⟩,⟨1,some 16,none,.bin .add (.t 15) (.c (.int .i64 1)),[]⟩,⟨2,some 5,none,.mov (.t 16),[]⟩])))))) (.seq (.ops [⟨0,some 4,none,.mov (.c (.bool true)),[]⟩]) .ret)))
attribute [irreducible] c_culletlaw19_sameInts
theorem run_culletlaw19_sameInts {args : List Value} {w : World} {K : Value → World → Prop} (hn : args.length ≤ 26) (h : WP Try.prog c_culletlaw19_sameInts (endQ [.t 4] K) (initT args) w) : CallV Try.prog 20 args w K :=
  call_of follows Try.func20 (by kernel_rfl) (by kernel_rfl) hn h
end Go.Proofs.Ytbaljbadlfopgaa.Fw
namespace Go.Proofs.Ytbaljbadlfopgaa.Fw
open Go Go.Fw
theorem culletlaw19_sameBytes_spec (w : World) (s1 s2 : Value) (l1 l2 : List (El 8)) (h1 : Sl w s1 l1) (h2 : Sl w s2 l2) (hb : l1.length ≤ 140737488355328) (hb2 : l2.length ≤ 140737488355328) :
    CallV Try.prog 17 [s1, s2] w fun v w' => v = .bool (decide (l1 = l2)) ∧ Like w w' := by
  refine run_culletlaw19_sameBytes (by simp) ?_
  simp only [c_culletlaw19_sameBytes, WS, ↓reduceIte, Nat.reduceEqDiff, reduceCtorEq, h1.Xlen, h2.Xlen]
  by_cases hl : l1.length = l2.length
  · simp only [WS, ↓reduceIte, Nat.reduceEqDiff, reduceCtorEq, show decide ((l1.length : Int) = (l2.length : Int)) = true from decide_eq_true (by omega)]
    refine loop_of (fun t w' => Like w w' ∧ t 0 = s1 ∧ t 1 = s2 ∧ ∃ i : Nat, t 5 = .int .i64 (i : Int) ∧ i ≤ l1.length ∧ l1.take i = l2.take i) (fun t _ => l1.length - (toI (t 5)).toNat) ⟨Like.refl w, rfl, rfl, 0, rfl, by omega, by simp⟩ ?_
    rintro t w' ⟨hk, t0, t1, i, t5, hi, he⟩
    have g1 := hk.sl h1
    have g2 := hk.sl h2
    by_cases hlt : i < l1.length
    · have hlt2 : i < l2.length := by omega
      simp only [WS, ↓reduceIte, Nat.reduceEqDiff, reduceCtorEq, t0, t1, t5, g1.Xlen, show decide ((i : Int) < (l1.length : Int)) = true from decide_eq_true (by omega)]
      refine WP_dops ?_
      simp only [ES, List.mem_cons, List.not_mem_nil, implies_true, forall_const, WS, ↓reduceIte, Nat.reduceEqDiff, reduceCtorEq, t0, t1, t5, g1.drew.Eix hlt, g1.drew.Eld hlt, g2.drew.Eix hlt2, g2.drew.Eld hlt2, cell_e8, el_eq]
      by_cases hx : l1[i] = l2[i]
      · simp only [WS, ↓reduceIte, Nat.reduceEqDiff, reduceCtorEq, t0, t1, t5, decide_eq_true hx, wrap_id (show -9223372036854775808 ≤ (i : Int) + 1 by omega) (show (i : Int) + 1 < 9223372036854775808 by omega), toI_int]
        refine ⟨⟨hk.trans (Like.drew _), i + 1, rfl, by omega, ?_⟩, by omega⟩
        rw [List.take_add_one, List.take_add_one, he, List.getElem?_eq_getElem hlt, List.getElem?_eq_getElem hlt2, hx]
      · have : ¬ l1 = l2 := fun e => hx (by subst e; rfl)
        simp only [WS, ↓reduceIte, Nat.reduceEqDiff, reduceCtorEq, t0, t1, t5, decide_eq_false hx, decide_eq_false this]
        exact hk.trans (Like.drew _)
    · rw [List.take_of_length_le (by omega), List.take_of_length_le (by omega)] at he
      simp only [WS, ↓reduceIte, Nat.reduceEqDiff, reduceCtorEq, t0, t1, t5, g1.Xlen, show decide ((i : Int) < (l1.length : Int)) = false from decide_eq_false (by omega), decide_eq_true he]
      exact hk
  · have : ¬ l1 = l2 := fun e => hl (by rw [e])
    simp only [WS, ↓reduceIte, Nat.reduceEqDiff, reduceCtorEq, show decide ((l1.length : Int) = (l2.length : Int)) = false from decide_eq_false (by omega), decide_eq_false this]
    exact Like.refl w
theorem culletlaw19_sameInts_spec (w : World) (s1 s2 : Value) (l1 l2 : List Int) (h1 : Sl w s1 l1) (h2 : Sl w s2 l2) (hb : l1.length ≤ 140737488355328) (hb2 : l2.length ≤ 140737488355328) :
    CallV Try.prog 20 [s1, s2] w fun v w' => v = .bool (decide (l1 = l2)) ∧ Like w w' := by
  refine run_culletlaw19_sameInts (by simp) ?_
  simp only [c_culletlaw19_sameInts, WS, ↓reduceIte, Nat.reduceEqDiff, reduceCtorEq, h1.Xlen, h2.Xlen]
  by_cases hl : l1.length = l2.length
  · simp only [WS, ↓reduceIte, Nat.reduceEqDiff, reduceCtorEq, show decide ((l1.length : Int) = (l2.length : Int)) = true from decide_eq_true (by omega)]
    refine loop_of (fun t w' => Like w w' ∧ t 0 = s1 ∧ t 1 = s2 ∧ ∃ i : Nat, t 5 = .int .i64 (i : Int) ∧ i ≤ l1.length ∧ l1.take i = l2.take i) (fun t _ => l1.length - (toI (t 5)).toNat) ⟨Like.refl w, rfl, rfl, 0, rfl, by omega, by simp⟩ ?_
    rintro t w' ⟨hk, t0, t1, i, t5, hi, he⟩
    have g1 := hk.sl h1
    have g2 := hk.sl h2
    by_cases hlt : i < l1.length
    · have hlt2 : i < l2.length := by omega
      simp only [WS, ↓reduceIte, Nat.reduceEqDiff, reduceCtorEq, t0, t1, t5, g1.Xlen, show decide ((i : Int) < (l1.length : Int)) = true from decide_eq_true (by omega)]
      refine WP_dops ?_
      simp only [ES, List.mem_cons, List.not_mem_nil, implies_true, forall_const, WS, ↓reduceIte, Nat.reduceEqDiff, reduceCtorEq, t0, t1, t5, g1.drew.Eix hlt, g1.drew.Eld hlt, g2.drew.Eix hlt2, g2.drew.Eld hlt2, cell_int]
      by_cases hx : l1[i] = l2[i]
      · simp only [WS, ↓reduceIte, Nat.reduceEqDiff, reduceCtorEq, t0, t1, t5, decide_eq_true hx, wrap_id (show -9223372036854775808 ≤ (i : Int) + 1 by omega) (show (i : Int) + 1 < 9223372036854775808 by omega), toI_int]
        refine ⟨⟨hk.trans (Like.drew _), i + 1, rfl, by omega, ?_⟩, by omega⟩
        rw [List.take_add_one, List.take_add_one, he, List.getElem?_eq_getElem hlt, List.getElem?_eq_getElem hlt2, hx]
      · have : ¬ l1 = l2 := fun e => hx (by subst e; rfl)
        simp only [WS, ↓reduceIte, Nat.reduceEqDiff, reduceCtorEq, t0, t1, t5, decide_eq_false hx, decide_eq_false this]
        exact hk.trans (Like.drew _)
    · rw [List.take_of_length_le (by omega), List.take_of_length_le (by omega)] at he
      simp only [WS, ↓reduceIte, Nat.reduceEqDiff, reduceCtorEq, t0, t1, t5, g1.Xlen, show decide ((i : Int) < (l1.length : Int)) = false from decide_eq_false (by omega), decide_eq_true he]
      exact hk
  · have : ¬ l1 = l2 := fun e => hl (by rw [e])
    simp only [WS, ↓reduceIte, Nat.reduceEqDiff, reduceCtorEq, show decide ((l1.length : Int) = (l2.length : Int)) = false from decide_eq_false (by omega), decide_eq_false this]
    exact Like.refl w
end Go.Proofs.Ytbaljbadlfopgaa.Fw

set_option linter.unusedVariables false
set_option linter.unusedSimpArgs false
set_option maxRecDepth 100000
set_option maxHeartbeats 1000000
namespace Go.Proofs.Ytbaljbadlfopgaa.Fw
open Go Go.Fw Go.Proofs
attribute [local irreducible] stepI
def c_culletlaw19_awake : C := .seq (.ops [⟨0,some 0,none,.mov (.c (.bool false)),[]⟩]) (.seq (.ops [⟨0,some 5,none,.bsl 3 4 [.int .i64 0] [(0,(1,.c (.int .i64 0))),(1,(1,.c (.int .i64 1))),(2,(1,.c (.int .i64 2))),(3,(1,.c (.int .i64 3)))],[]⟩,⟨1,some 6,none,.bsl 5 4 [.int .u8 0] [(0,(1,.c (.int .u8 0))),(1,(1,.c (.int .u8 1))),(2,(1,.c (.int .u8 7))),(3,(1,.c (.int .u8 3)))],[]⟩,⟨2,some 7,none,.call (.c (.func (.func 19) #[] #[])) [.c (.int .i64 2),.t 5,.t 6],[]⟩,⟨3,some 4,none,.mov (.t 7),[]⟩,⟨4,some 8,none,.ext (.t 4) 0,[]⟩,⟨5,some 9,none,.ext (.t 4) 1,[]⟩,⟨6,some 10,none,.ext (.t 4) 2,[]⟩,⟨7,some 1,none,.mov (.t 8),[]⟩,⟨8,some 2,none,.mov (.t 9),[]⟩,⟨9,some 3,none,.mov (.t 10),[]⟩]) (.seq (.ops [⟨0,some 11,none,.mov (.t 3),[]⟩,⟨1,some 12,none,.bin .eql (.t 11) (.c (.int .i64 0)),[]⟩,⟨2,some 13,none,.mov (.t 12),[]⟩,⟨3,some 14,(some (13,true)),.mov (.t 1),[]⟩,⟨4,some 15,(some (13,true)),.bsl 5 4 [.int .u8 0] [(0,(1,.c (.int .u8 0))),(1,(1,.c (.int .u8 1))),(2,(1,.c (.int .u8 2))),(3,(1,.c (.int .u8 3)))],[]⟩,⟨5,some 16,(some (13,true)),.call (.c (.func (.func 17) #[] #[])) [.t 14,.t 15],[]⟩,⟨6,some 17,none,.pick (.t 13) (.t 16) (.c (.bool false)),[]⟩,⟨7,some 18,none,.mov (.t 17),[]⟩,⟨8,some 19,(some (18,true)),.mov (.t 2),[]⟩,⟨9,some 20,(some (18,true)),.bsl 3 1 [.int .i64 0] [(0,(1,.c (.int .i64 2)))],[]⟩,⟨10,some 21,(some (18,true)),.call (.c (.func (.func 20) #[] #[])) [.t 19,.t 20],[]⟩,⟨11,some 22,none,.pick (.t 18) (.t 21) (.c (.bool false)),[]⟩,⟨12,some 0,none,.mov (.t 22),[]⟩]) .ret))
attribute [irreducible] c_culletlaw19_awake
theorem run_culletlaw19_awake {args : List Value} {w : World} {K : Value → World → Prop} (hn : args.length ≤ 23) (h : WP Try.prog c_culletlaw19_awake (endQ [.t 0] K) (initT args) w) : CallV Try.prog 13 args w K :=
  call_of follows Try.func13 (by kernel_rfl) (by kernel_rfl) hn h
end Go.Proofs.Ytbaljbadlfopgaa.Fw
namespace Go.Proofs.Ytbaljbadlfopgaa.Fw
open Go Go.Fw
theorem offP_uniq {P : List Int} {Y : List (El 8)} {k : Nat} {g g' : List (El 8)} (h : asc P P.length) (hk : k ≤ P.length) (tg : tr g = g) (tg' : tr g' = g') (hg : g.length ≤ k) (hg' : g'.length ≤ k)
    (ho : (offP g P Y).length ≤ (P.length - k) / 2) (ho' : (offP g' P Y).length ≤ (P.length - k) / 2) : g = g' := near_uniq (X := nth (xsP P)) (Y := nth Y) (N := P.length) (xsP_dist h) hk tg tg' hg hg' (by unfold offP at ho ho'; omega)
/-- What is near is what Column answers. -/
theorem mend_Column_near (w : World) (k : Nat) (s1 s2 : Value) (P : List Int) (Y g : List (El 8)) (h1 : Sl w s1 P) (h2 : Sl w s2 Y) (hk1 : 1 ≤ k) (hk : k ≤ P.length) (hP : P.length ≤ 256) (hY : Y.length = P.length) (ha : asc P P.length) (tg : tr g = g) (hg : g.length ≤ k) (ho : (offP g P Y).length ≤ (P.length - k) / 2) :
    CallV Try.prog 19 [.int .i64 (k : Int), s1, s2] w fun v w' => RowKit.Below w.heap.size w w' ∧ ∃ (sf so : Value), v = .tuple #[sf, so, .int .i64 0] ∧ Ow w.heap.size w' sf ((xsP P).map (evl g)) ∧ Ow w.heap.size w' so ((offP g P Y).map fun j => P.getD j 0) := by
  refine (mend_Column_spec w k s1 s2 P Y h1 h2 (by omega) (by omega)).mono ?_
  rintro v w' ⟨B, ⟨g1, -⟩ | ⟨-, g2, -⟩ | ⟨-, -, g3, -⟩ | ⟨-, -, -, g4, -⟩ | ⟨-, -, -, -, ⟨sf, so, g', rfl, of, oo, tg', hg', ho'⟩ | ⟨-, hfar⟩⟩⟩
  · omega
  · exact absurd ha g2
  · exact absurd hY g3
  · omega
  · rw [Int.toNat_natCast] at hg' ho'
    have he := offP_uniq ha hk tg' tg hg' hg ho' ho
    subst he
    exact ⟨B, sf, so, rfl, of, oo⟩
  · have := hfar g tg (by rw [Int.toNat_natCast]; exact hg)
    rw [Int.toNat_natCast] at this
    omega
theorem asc_of {P : List Int} (h : ∀ p ∈ P, 0 ≤ p ∧ p ≤ 255) (hp : P.Pairwise (· < ·)) : asc P P.length := fun i hi _ => by
  obtain ⟨a, b⟩ := h _ (List.getElem_mem hi)
  exact ⟨a, b, fun j hj hji => List.pairwise_iff_getElem.1 hp j i hj hi hji⟩
theorem evl_X (x : El 8) : evl [0, 1] x = x := by
  show (0 : El 8) + x * (1 + x * 0) = x
  rw [El.mul_zero, El.add_zero, El.mul_one, El.zero_add]
theorem awake19 : ∃ (P : List Int) (Y F : List (El 8)), P = [0, 1, 2, 3] ∧ Y = [⟨0⟩, ⟨1⟩, ⟨7⟩, ⟨3⟩] ∧ F = [⟨0⟩, ⟨1⟩, ⟨2⟩, ⟨3⟩] ∧ asc P P.length ∧ P.length = 4 ∧ Y.length = 4 ∧ F.length = 4 ∧ (xsP P).map (evl [0, 1]) = F ∧ offP [0, 1] P Y = [2] ∧ P.getD 2 0 = 2 := by
  refine ⟨_, _, _, rfl, rfl, rfl, asc_of (by decide) (by decide), rfl, rfl, rfl, ?_, ?_, rfl⟩
  · simp only [funext evl_X, List.map_id']
    decide
  · unfold offP offs
    simp only [evl_X]
    decide
theorem culletlaw19_awake_spec (w : World) : CallV Try.prog 13 [] w fun v w' => v = .bool true ∧ RowKit.Below w.heap.size w w' := by
  obtain ⟨P, Y, F, eP, eY, eF, ha, lP, lY, lF, hv, ho, h2⟩ := awake19
  refine run_culletlaw19_awake (by simp) ?_
  simp only [c_culletlaw19_awake, WS, ↓reduceIte, Nat.reduceEqDiff, reduceCtorEq]
  refine X_bsl (zs := P) (by rw [eP]; rfl) (by rw [eP]; rfl) fun s1 w1 o1 hB => ?_
  have B := hB
  clear hB
  have o1 := o1.sl
  simp (maxSteps := 1000000) (disch := omega) only [WS, ↓reduceIte, Nat.reduceEqDiff, reduceCtorEq, AS]
  refine X_bsl (zs := Y) (by rw [eY]; rfl) (by rw [eY]; rfl) fun s2 w2 o2 hB => ?_
  have o2 := o2.sl
  have o1 := o1.up hB
  have B := B.trans (hB.mono B.size)
  clear hB
  clear eP eY
  simp (maxSteps := 1000000) (disch := omega) only [WS, ↓reduceIte, Nat.reduceEqDiff, reduceCtorEq, AS]
  refine X_call0 ((mend_Column_near w2 2 s1 s2 P Y [0, 1] o1 o2 (by decide) (by omega) (by omega) (by omega) ha (by decide) (by decide) (by rw [ho, lP]; decide)).mono ?_)
  rintro _ w3 ⟨hB, sf, so, rfl, of, oo⟩
  rw [hv] at of
  rw [ho] at oo
  have of := of.sl
  have oo := oo.sl
  have B := B.trans (hB.mono B.size)
  clear hB
  simp (maxSteps := 1000000) (disch := omega) only [WS, ↓reduceIte, Nat.reduceEqDiff, reduceCtorEq, AS, show decide ((0 : Int) = 0) = true from rfl]
  refine X_bsl (zs := F) (by rw [eF]; rfl) (by rw [eF]; rfl) fun s3 w4 o3 hB => ?_
  have o3 := o3.sl
  have of := of.up hB
  have oo := oo.up hB
  have B := B.trans (hB.mono B.size)
  clear hB
  simp (maxSteps := 1000000) (disch := omega) only [WS, ↓reduceIte, Nat.reduceEqDiff, reduceCtorEq, AS]
  refine X_call0 ((culletlaw19_sameBytes_spec w4 sf s3 F F of o3 (by omega) (by omega)).mono ?_)
  rintro _ w5 ⟨rfl, hk⟩
  have hB := hk.1
  clear hk
  have oo := oo.up hB
  have B := B.trans (hB.mono B.size)
  clear hB
  simp (maxSteps := 1000000) (disch := omega) only [WS, ↓reduceIte, Nat.reduceEqDiff, reduceCtorEq, AS, decide_eq_true rfl]
  refine X_bsl (zs := [(2 : Int)]) (by rfl) (by rfl) fun s4 w6 o4 hB => ?_
  have o4 := o4.sl
  have oo := oo.up hB
  have B := B.trans (hB.mono B.size)
  clear hB
  simp (maxSteps := 1000000) (disch := omega) only [WS, ↓reduceIte, Nat.reduceEqDiff, reduceCtorEq, AS]
  refine X_call0 ((culletlaw19_sameInts_spec w6 so s4 _ _ oo o4 (by simp) (by simp)).mono ?_)
  rintro _ w7 ⟨rfl, hk⟩
  have hB := hk.1
  clear hk
  have B := B.trans (hB.mono B.size)
  clear hB
  have hl : ([2].map fun j => P.getD j 0) = [(2 : Int)] := by rw [List.map_cons, List.map_nil, h2]
  simp (maxSteps := 1000000) (disch := omega) only [WS, ↓reduceIte, Nat.reduceEqDiff, reduceCtorEq, AS, hl, decide_eq_true rfl]
  exact B
end Go.Proofs.Ytbaljbadlfopgaa.Fw
