import Derived.Test.YtbaljbadlfopgaaProg
import Derived.Test.YtbaljbadlfopgaaFwTC
import Derived.Test.YtbaljbadlfopgaaSMrfC
import Derived.Test.YtbaljbadlfopgaaGfWC
import Derived.Test.YtbaljbadlfopgaaGfGC
set_option linter.all false
set_option linter.unusedVariables false
set_option linter.unusedSimpArgs false
set_option maxRecDepth 100000
set_option maxHeartbeats 1000000
namespace Go.Proofs.Ytbaljbadlfopgaa.Fw
open Go Go.Fw Go.Proofs
attribute [local irreducible] stepI
def c_mend_Syndromes : C := .seq (.ops [⟨0, (some 6), none, .mov (.c (.slice none 0 0)), []⟩, ⟨1, (some 7), none, .mov (.c (.int .i64 0)), []⟩]) (.seq (.ops [⟨0, (some 14), none, .mov (.t 0), []⟩, ⟨1, (some 15), none, .mov (.t 1), []⟩, ⟨2, (some 16), none, .mov (.t 2), []⟩, ⟨3, (some 17), none, .call (.c (.func (.func 54) #[] #[])) [.t 14, .t 15, .t 16], []⟩, ⟨4, (some 13), none, .mov (.t 17), []⟩, ⟨5, (some 18), none, .ext (.t 13) 0, []⟩, ⟨6, (some 19), none, .ext (.t 13) 1, []⟩, ⟨7, (some 8), none, .mov (.t 18), []⟩, ⟨8, (some 9), none, .mov (.t 19), []⟩]) (.seq (.seq (.ops [⟨0, (some 20), none, .mov (.t 9), []⟩, ⟨1, (some 21), none, .bin .neq (.t 20) (.c (.int .i64 0)), []⟩]) (.ite (.t 21) (.seq (.ops [⟨0, (some 22), none, .mov (.t 9), []⟩, ⟨1, (some 6), none, .mov (.c (.slice none 0 0)), []⟩, ⟨2, (some 7), none, .mov (.t 22), []⟩]) .ret) .skip)) (.seq (.ops [⟨0, (some 24), none, .call (.c (.func (.func 55) #[] #[])) [], []⟩, ⟨1, (some 25), none, .mov (.t 8), []⟩, ⟨2, (some 26), none, .mov (.t 2), []⟩, ⟨3, (some 27), none, .call (.c (.func (.func 56) #[] #[])) [.t 24, .t 25, .t 26], []⟩, ⟨4, (some 23), none, .mov (.t 27), []⟩, ⟨5, (some 28), none, .ext (.t 23) 0, []⟩, ⟨6, (some 29), none, .ext (.t 23) 1, []⟩, ⟨7, (some 10), none, .mov (.t 28), []⟩, ⟨8, (some 11), none, .mov (.t 29), []⟩]) (.seq (.ops [⟨0, (some 30), none, .mov (.t 8), []⟩, ⟨1, (some 31), none, .len (.t 30), []⟩, ⟨2, (some 32), none, .mov (.t 0), []⟩, ⟨3, (some 33), none, .bin .sub (.t 31) (.t 32), []⟩, ⟨4, (some 34), none, .mks 5 1 [.int .u8 0] (.t 33) (.t 33), []⟩, ⟨5, (some 12), none, .mov (.t 34), []⟩]) (.seq (.seq (.ops [⟨0, (some 35), none, .mov (.t 10), []⟩, ⟨1, (some 36), none, .len (.t 35), []⟩, ⟨2, (some 37), none, .mov (.t 0), []⟩, ⟨3, (some 38), none, .bin .gtr (.t 36) (.t 37), []⟩]) (.ite (.t 38) (.ops [⟨0, (some 39), none, .mov (.t 12), []⟩, ⟨1, (some 40), none, .mov (.t 10), []⟩, ⟨2, (some 41), none, .mov (.t 0), []⟩, ⟨3, (some 42), none, .slc 1 (.t 40) (some (.t 41)) none none, []⟩, ⟨4, (some 43), none, .cpy 1 (.t 39) (.t 42), []⟩]) .skip)) (.seq (.ops [⟨0, (some 44), none, .mov (.t 12), []⟩, ⟨1, (some 6), none, .mov (.t 44), []⟩, ⟨2, (some 7), none, .mov (.c (.int .i64 0)), []⟩]) .ret))))))
attribute [irreducible] c_mend_Syndromes
theorem run_mend_Syndromes {args : List Value} {w : World} {K : Value → World → Prop} (hn : args.length ≤ 45) (h : WP Try.prog c_mend_Syndromes (endQ [.t 6, .t 7] K) (initT args) w) : CallV Try.prog 16 args w K :=
  call_of follows Try.func16 (by kernel_rfl) (by kernel_rfl) hn h
end Go.Proofs.Ytbaljbadlfopgaa.Fw
namespace Go.Proofs.Ytbaljbadlfopgaa.Fw
open Go Go.Fw
theorem asc_dist {P : List Int} {xs : List (El 8)} (h : asc P P.length) (hl : xs.length = P.length) (hv : ∀ i (hi : i < xs.length) (hi' : i < P.length), ((xs[i].v.toNat : Nat) : Int) = P[i]) : ∀ a b, a < xs.length → b < xs.length → nth xs a = nth xs b → a = b := fun a b ha hb e => by
  rw [nth_get ha, nth_get hb] at e
  have e1 := hv a ha (by omega)
  have e2 := hv b hb (by omega)
  rw [e] at e1
  rcases Nat.lt_trichotomy a b with h1 | h1 | h1
  · have := (h b (by omega) (by omega)).2.2 a (by omega) h1
    omega
  · exact h1
  · have := (h a (by omega) (by omega)).2.2 b (by omega) h1
    omega
theorem mend_Syndromes_spec (w : World) (k : Int) (s1 s2 : Value) (P : List Int) (Y : List (El 8)) (h1 : Sl w s1 P) (h2 : Sl w s2 Y) (hP : P.length ≤ 70368744175616) (hY : Y.length ≤ 70368744175616) :
    CallV Try.prog 16 [.int .i64 k, s1, s2] w fun v w' => RowKit.Below w.heap.size w w' ∧
      (((k < 1 ∨ k > 256 ∨ P.length > 256) ∧ v = .tuple #[.slice none 0 0, .int .i64 4]) ∨
       (¬ (k < 1 ∨ k > 256 ∨ P.length > 256) ∧ ¬ asc P P.length ∧ v = .tuple #[.slice none 0 0, .int .i64 110]) ∨
       (¬ (k < 1 ∨ k > 256 ∨ P.length > 256) ∧ asc P P.length ∧ Y.length ≠ P.length ∧ v = .tuple #[.slice none 0 0, .int .i64 6]) ∨
       (¬ (k < 1 ∨ k > 256 ∨ P.length > 256) ∧ asc P P.length ∧ Y.length = P.length ∧ (P.length : Int) < k ∧ v = .tuple #[.slice none 0 0, .int .i64 9]) ∨
       (¬ (k < 1 ∨ k > 256 ∨ P.length > 256) ∧ asc P P.length ∧ Y.length = P.length ∧ ¬ (P.length : Int) < k ∧ ∃ (s : Value) (S : List (El 8)), v = .tuple #[s, .int .i64 0] ∧ Ow w.heap.size w' s S ∧ S.length = P.length - k.toNat ∧ ∀ xs : List (El 8), xs.length = P.length → (∀ i (hi : i < xs.length) (hi' : i < P.length), ((xs[i].v.toNat : Nat) : Int) = P[i]) → ∀ i, i < S.length → (co S).c i = (nw (nth xs) (nth Y) 0 P.length).c (k.toNat + i))) := by
  refine run_mend_Syndromes (by simp) ?_
  simp only [c_mend_Syndromes, WS, List.getElem_cons_zero, List.getElem_cons_succ, Option.isNone_some, Option.isNone_none, List.getD_cons_zero, List.getD_cons_succ, I.at, atL, atO, atP, evp, evs, retV, ↓reduceIte, Nat.reduceEqDiff, reduceCtorEq]
  refine X_call0 ((mend_refuses_spec w k s1 s2 P Y h1 h2 hP hY).mono ?_)
  rintro vv w1 ⟨B, ⟨g1, rfl⟩ | ⟨g1, g2, rfl⟩ | ⟨g1, g2, g3, rfl⟩ | ⟨g1, g2, g3, g4, rfl⟩ | ⟨g1, g2, g3, g4, s, xs, rfl, oxs, hxl, hxv⟩⟩
  · simp (maxSteps := 1000000) (disch := omega) only [WS, List.getElem_cons_zero, List.getElem_cons_succ, Option.isNone_some, Option.isNone_none, List.getD_cons_zero, List.getD_cons_succ, I.at, atL, atO, atP, evp, evs, retV, ↓reduceIte, Nat.reduceEqDiff, reduceCtorEq, AS, show decide ((4 : Int) ≠ 0) = true from rfl]
    exact ⟨B, Or.inl g1⟩
  · simp (maxSteps := 1000000) (disch := omega) only [WS, List.getElem_cons_zero, List.getElem_cons_succ, Option.isNone_some, Option.isNone_none, List.getD_cons_zero, List.getD_cons_succ, I.at, atL, atO, atP, evp, evs, retV, ↓reduceIte, Nat.reduceEqDiff, reduceCtorEq, AS, show decide ((110 : Int) ≠ 0) = true from rfl]
    exact ⟨B, Or.inr (Or.inl ⟨g1, g2⟩)⟩
  · simp (maxSteps := 1000000) (disch := omega) only [WS, List.getElem_cons_zero, List.getElem_cons_succ, Option.isNone_some, Option.isNone_none, List.getD_cons_zero, List.getD_cons_succ, I.at, atL, atO, atP, evp, evs, retV, ↓reduceIte, Nat.reduceEqDiff, reduceCtorEq, AS, show decide ((6 : Int) ≠ 0) = true from rfl]
    exact ⟨B, Or.inr (Or.inr (Or.inl ⟨g1, g2, g3⟩))⟩
  · simp (maxSteps := 1000000) (disch := omega) only [WS, List.getElem_cons_zero, List.getElem_cons_succ, Option.isNone_some, Option.isNone_none, List.getD_cons_zero, List.getD_cons_succ, I.at, atL, atO, atP, evp, evs, retV, ↓reduceIte, Nat.reduceEqDiff, reduceCtorEq, AS, show decide ((9 : Int) ≠ 0) = true from rfl]
    exact ⟨B, Or.inr (Or.inr (Or.inr (Or.inl ⟨g1, g2, g3, g4⟩)))⟩
  obtain ⟨K, rfl⟩ : ∃ K : Nat, k = (K : Int) := ⟨k.toNat, by omega⟩
  have h2 := h2.up B
  have oxs := oxs.sl
  simp (maxSteps := 1000000) (disch := omega) only [WS, List.getElem_cons_zero, List.getElem_cons_succ, Option.isNone_some, Option.isNone_none, List.getD_cons_zero, List.getD_cons_succ, I.at, atL, atO, atP, evp, evs, retV, ↓reduceIte, Nat.reduceEqDiff, reduceCtorEq, AS, show decide ((0 : Int) ≠ 0) = false from rfl]
  refine X_call0 ((polys_Over8_spec w1).mono ?_)
  rintro r w2 ⟨hr, hB, -⟩
  have h2 := h2.up hB
  have oxs := oxs.up hB
  have B := B.trans (hB.mono B.size)
  clear hB
  simp (maxSteps := 1000000) (disch := omega) only [WS, List.getElem_cons_zero, List.getElem_cons_succ, Option.isNone_some, Option.isNone_none, List.getD_cons_zero, List.getD_cons_succ, I.at, atL, atO, atP, evp, evs, retV, ↓reduceIte, Nat.reduceEqDiff, reduceCtorEq, AS]
  refine X_call0 ((polys_Ring_b_Interpolate_spec w2 r s s2 xs Y hr oxs h2 (by omega) (by omega)).mono ?_)
  rintro vv w3 ⟨hB, hres⟩
  have hX := asc_dist g2 hxl hxv
  obtain ⟨sf, f, rfl, of, cf, lf⟩ : ∃ sf f, vv = .tuple #[sf, .int .i64 0] ∧ Ow w2.heap.size w3 sf f ∧ co f = nw (nth xs) (nth Y) 0 xs.length ∧ f.length ≤ xs.length := by
    rcases hres with ⟨-, -, -, -, sf, mf, h1, h2, h3, h4, h5⟩ | ⟨-, -, h9, -⟩ | ⟨-, -, -, h9, -⟩ | ⟨h9, -⟩
    · exact ⟨sf, mf, h1, h2, h4, h5⟩
    · exact absurd (by omega) h9
    · exact absurd hX h9
    · exact absurd ⟨by omega, by omega⟩ h9
  clear hres
  have of := of.sl
  have oxs := oxs.up hB
  have B := B.trans (hB.mono B.size)
  clear hB
  have e1 : IntKind.i64.wrap ((xs.length : Int) - (K : Int)) = ((xs.length - K : Nat) : Int) := by rw [wrap_id (by omega) (by omega)]; omega
  simp (maxSteps := 1000000) (disch := omega) only [WS, List.getElem_cons_zero, List.getElem_cons_succ, Option.isNone_some, Option.isNone_none, List.getD_cons_zero, List.getD_cons_succ, I.at, atL, atO, atP, evp, evs, retV, ↓reduceIte, Nat.reduceEqDiff, reduceCtorEq, AS, oxs.Xlen, e1]
  refine X_mks (x := (0 : El 8)) (n := xs.length - K) (by simp only [maxBytes]; omega) (by omega) fun sS w4 oS hB => ?_
  have oS := oS.mono B.size
  have of := of.up hB
  have B := B.trans (hB.mono B.size)
  clear hB
  have huniq : ∀ xs' : List (El 8), xs'.length = P.length → (∀ i (hi : i < xs'.length) (hi' : i < P.length), ((xs'[i].v.toNat : Nat) : Int) = P[i]) → xs' = xs := fun xs' hl' hv' => List.ext_getElem (by omega) fun i h1 h2 => by
    have a1 := hv' i h1 (by omega)
    have a2 := hxv i h2 (by omega)
    exact El.ext (BitVec.eq_of_toNat_eq (by omega))
  by_cases hlong : K < f.length
  · simp (maxSteps := 1000000) (disch := omega) only [WS, List.getElem_cons_zero, List.getElem_cons_succ, Option.isNone_some, Option.isNone_none, List.getD_cons_zero, List.getD_cons_succ, I.at, atL, atO, atP, evp, evs, retV, ↓reduceIte, Nat.reduceEqDiff, reduceCtorEq, AS, of.Xlen, of.XslcLo (show K ≤ f.length by omega)]
    have hsub := of.sub (lo := K) (hi := f.length) (by omega) (Nat.le_refl _)
    rw [List.take_length] at hsub
    refine oS.Xcpy hsub fun w5 oS2 hg => ?_
    have B := B.grown hg B.size fun b hb => (oS.blk b hb).1
    simp (maxSteps := 1000000) (disch := omega) only [WS, List.getElem_cons_zero, List.getElem_cons_succ, Option.isNone_some, Option.isNone_none, List.getD_cons_zero, List.getD_cons_succ, I.at, atL, atO, atP, evp, evs, retV, ↓reduceIte, Nat.reduceEqDiff, reduceCtorEq, AS]
    refine ⟨B, Or.inr (Or.inr (Or.inr (Or.inr ⟨g1, g2, g3, g4, sS, _, rfl, oS2, ?_, fun xs' hl' hv' i hi => ?_⟩)))⟩
    · simp only [List.length_append, List.length_take, List.length_drop, List.length_replicate, Int.toNat_natCast]; omega
    · rw [huniq xs' hl' hv', ← hxl, Int.toNat_natCast, ← cf, co_app]
      have hd : ∀ j, (co (f.drop K)).c j = (co f).c (K + j) := fun j => by
        show (f.drop K).getD j 0 = f.getD (K + j) 0
        rw [List.getD_eq_getElem?_getD, List.getD_eq_getElem?_getD, List.getElem?_drop]
      have ht : (f.drop K).take (List.replicate (xs.length - K) (0 : El 8)).length = f.drop K := List.take_of_length_le (by rw [List.length_drop, List.length_replicate]; omega)
      rw [ht]
      split
      · exact hd i
      · rename_i hge
        rw [List.length_drop] at hge
        rw [List.drop_replicate, co_replicate, co_dg f (K + i) (by omega)]
        rfl
  · simp (maxSteps := 1000000) (disch := omega) only [WS, List.getElem_cons_zero, List.getElem_cons_succ, Option.isNone_some, Option.isNone_none, List.getD_cons_zero, List.getD_cons_succ, I.at, atL, atO, atP, evp, evs, retV, ↓reduceIte, Nat.reduceEqDiff, reduceCtorEq, AS, of.Xlen]
    refine ⟨B, Or.inr (Or.inr (Or.inr (Or.inr ⟨g1, g2, g3, g4, sS, _, rfl, oS, ?_, fun xs' hl' hv' i hi => ?_⟩)))⟩
    · rw [List.length_replicate, Int.toNat_natCast]; omega
    · rw [huniq xs' hl' hv', ← hxl, Int.toNat_natCast, ← cf, co_replicate, co_dg f (K + i) (by omega)]
      rfl
end Go.Proofs.Ytbaljbadlfopgaa.Fw

/- Values of a polynomial, spoilt in places: what interpolates them, and what is near. -/
set_option linter.unusedVariables false
set_option linter.unusedSimpArgs false
namespace Go.Fw
open Go
section
variable {n : Nat} [F : Fd n]
theorem nw_uniq {X Y : Nat → El n} {N : Nat} (hX : ∀ a b, a < N → b < N → X a = X b → a = b) {f : Ps n} (hd : Dg f N) (h : ∀ j, j < N → evn f (X j) N = Y j) : f = nw X Y 0 N := by
  refine Ps.eq_of_add (zero_of X 0 N (hd.add (nw_dg X Y 0 N)) (fun a b ha hb e => hX a b ha hb (by simpa using e)) fun j hj => ?_)
  rw [evn_add, nw_ev X Y N hX N 0 (by omega) j hj, Nat.zero_add, h j hj, El.add_self]
/-- The higher coefficients hang on what is wrong alone. -/
theorem nw_syn {X S M : Nat → El n} {N : Nat} (hX : ∀ a b, a < N → b < N → X a = X b → a = b) {p : List (El n)} (hp : p.length ≤ N) (hS : ∀ j, j < N → S j = evl p (X j) + M j) : nw X S 0 N = co p + nw X M 0 N := by
  refine (nw_uniq hX (((co_dg p).mono hp).add (nw_dg X M 0 N)) fun j hj => ?_).symm
  have h1 := nw_ev X M N hX N 0 (by omega) j hj
  rw [Nat.zero_add] at h1
  rw [evn_add, h1, hS j hj, evl_co, evn_eq ((co_dg p).mono hp) (co_dg p)]
/-- The places of what is not 0. -/
def wr (M : Nat → El n) (N : Nat) : List Nat := (List.range N).filter fun j => !decide (M j = 0)
theorem offs_spoilt {X S M : Nat → El n} {N : Nat} {p : List (El n)} (hS : ∀ j, j < N → S j = evl p (X j) + M j) : offs (tr p) X S N = wr M N := by
  unfold offs wr
  refine List.filter_congr fun j hj => ?_
  have hj := List.mem_range.1 hj
  rw [evl_eq (X j) (tr_co p), hS j hj]
  congr 1
  refine decide_eq_decide.2 ⟨fun h => ?_, fun h => by rw [h, El.add_zero]⟩
  have : evl p (X j) + evl p (X j) = evl p (X j) + (evl p (X j) + M j) := by rw [← h]
  rw [El.add_self, ← El.add_assoc, El.add_self, El.zero_add] at this
  exact this.symm
theorem offs_nil {X M : Nat → El n} {N : Nat} : offs [] X M N = wr M N := by
  unfold offs wr
  refine List.filter_congr fun j hj => ?_
  congr 1
  exact decide_eq_decide.2 ⟨fun h => h.symm, fun h => h.symm⟩
theorem syn_zero {X M : Nat → El n} {N k : Nat} (hX : ∀ a b, a < N → b < N → X a = X b → a = b) (hk : k ≤ N) (hM : (wr M N).length + k ≤ N) : (∀ i, i < N - k → (nw X M 0 N).c (k + i) = 0) ↔ wr M N = [] := by
  constructor
  · intro h
    have hd : Dg (nw X M 0 N) k := fun i hi => by
      by_cases h1 : i < N
      · have := h (i - k) (by omega)
        rwa [show k + (i - k) = i by omega] at this
      · exact nw_dg X M 0 N i (by omega)
    have hc : co (tr (ofc k (nw X M 0 N))) = nw X M 0 N := by rw [tr_co, ofc_co hd]
    have hl : (tr (ofc k (nw X M 0 N))).length ≤ k := by
      rw [tr_len]; have := tln_le (ofc k (nw X M 0 N)); rw [ofc_len] at this; exact this
    have ho : offs (tr (ofc k (nw X M 0 N))) X M N = [] := List.eq_nil_iff_forall_not_mem.2 fun j hj => by
      obtain ⟨h1, h2⟩ := offs_mem.1 hj
      refine h2 ?_
      have := nw_ev X M N hX N 0 (by omega) j h1
      rw [Nat.zero_add] at this
      rw [evl_co, evn_eq (co_dg _) ((co_dg _).mono (show _ ≤ N by omega)), hc]
      exact this
    have := near_uniq hX (g := tr (ofc k (nw X M 0 N))) (g' := []) hk (tr_tr _) rfl hl (Nat.zero_le _) (by rw [ho, offs_nil]; simpa using hM)
    rw [this, offs_nil] at ho
    exact ho
  · intro h i hi
    have hz : nw X M 0 N = 0 := (nw_uniq hX (f := 0) (fun _ _ => rfl) fun j hj => by
      rw [evn_zero]
      refine Classical.byContradiction fun hne => ?_
      have : j ∈ wr M N := List.mem_filter.2 ⟨List.mem_range.2 hj, by simpa using fun e => hne e.symm⟩
      rw [h] at this
      exact absurd this (by simp)).symm
    rw [hz]; rfl
end
end Go.Fw
