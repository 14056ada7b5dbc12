import Derived.Test.YtbaljbadlfopgaaProg
import Derived.Test.YtbaljbadlfopgaaFwTW
import Derived.Test.YtbaljbadlfopgaaSMwkW
import Derived.Test.YtbaljbadlfopgaaFwShW
import Derived.Test.YtbaljbadlfopgaaSMawkW
set_option linter.all false
set_option linter.unusedVariables false
set_option linter.unusedSimpArgs false
set_option maxRecDepth 100000
set_option maxHeartbeats 1000000
namespace Go.Proofs.Ytbaljbadlfopgaa.Fw
open Go Go.Fw Go.Proofs
attribute [local irreducible] stepI
def c_mend_Shards : C := .seq (.ops [⟨0,some 8,none,.mov (.c (.slice none 0 0)),[]⟩,⟨1,some 9,none,.mov (.c (.int .i64 0)),[]⟩]) (.seq (.ops [⟨0,some 20,none,.mov (.t 0),[]⟩,⟨1,some 21,none,.mov (.t 1),[]⟩,⟨2,some 22,none,.mov (.t 2),[]⟩,⟨3,some 23,none,.mov (.t 3),[]⟩,⟨4,some 24,none,.call (.c (.func (.func 60) #[] #[])) [.t 20,.t 21,.t 22,.t 23],[]⟩,⟨5,some 19,none,.mov (.t 24),[]⟩,⟨6,some 25,none,.ext (.t 19) 0,[]⟩,⟨7,some 26,none,.ext (.t 19) 1,[]⟩,⟨8,some 27,none,.ext (.t 19) 2,[]⟩,⟨9,some 28,none,.ext (.t 19) 3,[]⟩,⟨10,some 10,none,.mov (.t 25),[]⟩,⟨11,some 11,none,.mov (.t 26),[]⟩,⟨12,some 8,none,.mov (.t 27),[]⟩,⟨13,some 9,none,.mov (.t 28),[]⟩]) (.seq (.seq (.ops [⟨0,some 29,none,.mov (.t 9),[]⟩,⟨1,some 30,none,.bin .neq (.t 29) (.c (.int .i64 0)),[]⟩]) (.ite (.t 30) (.seq (.ops [⟨0,some 31,none,.mov (.t 9),[]⟩,⟨1,some 8,none,.mov (.c (.slice none 0 0)),[]⟩,⟨2,some 9,none,.mov (.t 31),[]⟩]) .ret) .skip)) (.seq (.ops [⟨0,some 12,none,.mov (.c (.int .i64 0)),[]⟩]) (.seq (.seq (.ops [⟨0,some 32,none,.mov (.t 3),[]⟩,⟨1,some 33,none,.len (.t 32),[]⟩,⟨2,some 34,none,.mov (.c (.int .i64 0)),[]⟩]) (.block 0 (.loop (.seq (.ops [⟨0,some 35,none,.bin .lss (.t 34) (.t 33),[]⟩]) (.seq (.ite (.t 35) .skip (.exit 0)) (.seq (.block 1 (.seq (.ops [⟨0,some 36,none,.mov (.t 34),[]⟩,⟨1,some 13,none,.mov (.t 36),[]⟩]) (.seq (.seq (.ops [⟨0,some 37,none,.mov (.t 3),[]⟩,⟨1,some 38,none,.mov (.t 13),[]⟩,⟨2,some 39,none,.ixs 1 (.t 37) (.t 38),[]⟩,⟨3,some 40,none,.ld (.t 39),[]⟩,⟨4,some 41,none,.len (.t 40),[]⟩,⟨5,some 42,none,.bin .eql (.t 41) (.c (.int .i64 0)),[]⟩]) (.ite (.t 42) (.exit 1) .skip)) (.seq (.seq (.ops [⟨0,some 43,none,.mov (.t 10),[]⟩,⟨1,some 44,none,.len (.t 43),[]⟩,⟨2,some 45,none,.mov (.c (.int .i64 0)),[]⟩]) (.block 2 (.loop (.seq (.ops [⟨0,some 46,none,.bin .lss (.t 45) (.t 44),[]⟩]) (.seq (.ite (.t 46) .skip (.exit 2)) (.seq (.block 3 (.seq (.ops [⟨0,some 47,none,.mov (.t 45),[]⟩,⟨1,some 14,none,.mov (.t 47),[]⟩]) (.dops [⟨0,some 48,none,.mov (.t 3),[]⟩,⟨1,some 49,none,.mov (.t 13),[]⟩,⟨2,some 50,none,.ixs 1 (.t 48) (.t 49),[]⟩,⟨3,some 51,none,.ld (.t 50),[]⟩,⟨4,some 52,none,.mov (.t 14),[]⟩,⟨5,some 53,none,.mov (.t 10),[]⟩,⟨6,some 54,none,.mov (.t 14),[]⟩,⟨7,some 55,none,.ixs 2 (.t 53) (.t 54),[]⟩,⟨8,some 56,none,.fad 0 (.t 55),[]⟩,⟨9,some 57,none,.ld (.t 56),[]⟩,⟨10,some 58,none,.mov (.t 12),[]⟩,⟨11,some 59,none,.ixs 1 (.t 57) (.t 58),[]⟩,⟨12,some 60,none,.ld (.t 59),[]⟩,⟨13,some 61,none,.ixs 1 (.t 51) (.t 52),[]⟩,⟨14,none,none,.st (.t 61) (.t 60),[]⟩]))) (.ops [⟨0,some 62,none,.bin .add (.t 45) (.c (.int .i64 1)),[]⟩,⟨1,some 45,none,.mov (.t 62),[]⟩]))))))) (.ops [⟨0,some 63,none,.mov (.t 12),[]⟩,⟨1,some 64,none,.bin .add (.t 63) (.c (.int .i64 1)),[]⟩,⟨2,some 12,none,.mov (.t 64),[]⟩]))))) (.ops [⟨0,some 65,none,.bin .add (.t 34) (.c (.int .i64 1)),[]⟩,⟨1,some 34,none,.mov (.t 65),[]⟩]))))))) (.seq (.seq (.ops [⟨0,some 66,none,.mov (.t 11),[]⟩,⟨1,some 67,none,.len (.t 66),[]⟩,⟨2,some 68,none,.mov (.c (.int .i64 0)),[]⟩]) (.block 4 (.loop (.seq (.ops [⟨0,some 69,none,.bin .lss (.t 68) (.t 67),[]⟩]) (.seq (.ite (.t 69) .skip (.exit 4)) (.seq (.block 5 (.seq (.ops [⟨0,some 70,none,.mov (.t 68),[]⟩,⟨1,some 71,none,.ixs 1 (.t 66) (.t 68),[]⟩,⟨2,some 72,none,.ld (.t 71),[]⟩,⟨3,some 15,none,.mov (.t 70),[]⟩,⟨4,some 16,none,.mov (.t 72),[]⟩]) (.seq (.ops [⟨0,some 73,none,.mov (.t 10),[]⟩,⟨1,some 74,none,.len (.t 73),[]⟩,⟨2,some 75,none,.mks 5 1 [.int .u8 0] (.t 74) (.t 74),[]⟩,⟨3,some 17,none,.mov (.t 75),[]⟩]) (.seq (.seq (.ops [⟨0,some 76,none,.mov (.t 10),[]⟩,⟨1,some 77,none,.len (.t 76),[]⟩,⟨2,some 78,none,.mov (.c (.int .i64 0)),[]⟩]) (.block 6 (.loop (.seq (.ops [⟨0,some 79,none,.bin .lss (.t 78) (.t 77),[]⟩]) (.seq (.ite (.t 79) .skip (.exit 6)) (.seq (.block 7 (.seq (.ops [⟨0,some 80,none,.mov (.t 78),[]⟩,⟨1,some 18,none,.mov (.t 80),[]⟩]) (.ops [⟨0,some 81,none,.mov (.t 17),[]⟩,⟨1,some 82,none,.mov (.t 18),[]⟩,⟨2,some 83,none,.mov (.t 10),[]⟩,⟨3,some 84,none,.mov (.t 18),[]⟩,⟨4,some 85,none,.ixs 2 (.t 83) (.t 84),[]⟩,⟨5,some 86,none,.fad 1 (.t 85),[]⟩,⟨6,some 87,none,.ld (.t 86),[]⟩,⟨7,some 88,none,.mov (.t 15),[]⟩,⟨8,some 89,none,.ixs 1 (.t 87) (.t 88),[]⟩,⟨9,some 90,none,.ld (.t 89),[]⟩,⟨10,some 91,none,.ixs 1 (.t 81) (.t 82),[]⟩,⟨11,none,none,.st (.t 91) (.t 90),[]⟩]))) (.ops [⟨0,some 92,none,.bin .add (.t 78) (.c (.int .i64 1)),[]⟩,⟨1,some 78,none,.mov (.t 92),[]⟩]))))))) (.ops [⟨0,some 93,none,.mov (.t 3),[]⟩,⟨1,some 94,none,.mov (.t 16),[]⟩,⟨2,some 95,none,.mov (.t 17),[]⟩,⟨3,some 96,none,.ixs 1 (.t 93) (.t 94),[]⟩,⟨4,none,none,.st (.t 96) (.t 95),[]⟩]))))) (.ops [⟨0,some 97,none,.bin .add (.t 68) (.c (.int .i64 1)),[]⟩,⟨1,some 68,none,.mov (.t 97),[]⟩]))))))) (.seq (.ops [⟨0,some 98,none,.mov (.t 8),[]⟩,⟨1,some 8,none,.mov (.t 98),[]⟩,⟨2,some 9,none,.mov (.c (.int .i64 0)),[]⟩]) .ret))))))
attribute [irreducible] c_mend_Shards
theorem run_mend_Shards {args : List Value} {w : World} {K : Value → World → Prop} (hn : args.length ≤ 99) (h : WP Try.prog c_mend_Shards (endQ [.t 8, .t 9] K) (initT args) w) : CallV Try.prog 24 args w K :=
  call_of follows Try.func24 (by kernel_rfl) (by kernel_rfl) hn h
end Go.Proofs.Ytbaljbadlfopgaa.Fw
namespace Go.Proofs.Ytbaljbadlfopgaa.Fw
open Go Go.Fw
/-- The numbers of the shards that are wrong. -/
def wrL (L : Nat → Nat) (n : Nat) (bo : Nat → Bool) : List Int := ((List.range (prsL L n).length).filter bo).map fun i => (((prsL L n).getD i 0 : Nat) : Int)
/-- Shard s mended. -/
def rowS (f : Int) (k : Nat) (G : Nat → List (El 8)) (len s : Nat) : List (El 8) := (List.range len).map fun t => valS f k (G t) s
theorem rowS_len (f : Int) (k : Nat) (G : Nat → List (El 8)) (len s : Nat) : (rowS f k G len s).length = len := by unfold rowS; rw [List.length_map, List.length_range]
theorem prsL_idx (L : Nat → Nat) {s : Nat} (hs : L s ≠ 0) : ∀ n, s < n → ∃ h : (prsL L s).length < (prsL L n).length, (prsL L n)[(prsL L s).length] = s
  | 0, h => absurd h (Nat.not_lt_zero _)
  | n + 1, h => by
    have e := prsL_succ L n
    by_cases hn : s = n
    · subst hn
      rw [if_neg hs] at e
      refine ⟨by rw [e, List.length_append]; simp, ?_⟩
      simp only [e]
      exact List.getElem_concat_length rfl _
    · obtain ⟨h1, h2⟩ := prsL_idx L hs n (by omega)
      split at e
      · exact ⟨by rw [e]; exact h1, by simp only [e]; exact h2⟩
      · refine ⟨by rw [e, List.length_append]; omega, ?_⟩
        simp only [e]
        rw [List.getElem_append_left h1]
        exact h2
section
variable {B : Nat} {w w' : World} {f : Int} {k : Nat} {L : Nat → Nat} {n : Nat} {R : Nat → List (El 8)} {CL : List Hd} {G : Nat → List (El 8)} {N : Nat}
theorem Ent.gr (h : Ent B w f k L n R CL G N) {c : Nat} (hg : w.grownBy w' (some c)) (hc : c < B) : Ent B w' f k L n R CL G N := fun t ht => by
  obtain ⟨h1, h2, h3⟩ := h t ht
  exact ⟨h1, h2.gr' hg fun x hx e => by cases hx; have := (h2.blk _ e).1; omega, h3.gr' hg fun x hx e => by cases hx; have := (h3.blk _ e).1; omega⟩
end
set_option maxHeartbeats 8000000 in
theorem mend_Shards_spec {B : Nat} {Fr : World → Prop} {Df : Nat → Prop} {Tm : Nat → List (El 8)} (w : World) (f k m : Int) (s : Value) (hs : List Hd) (R : Nat → List (El 8)) (hF : Frm Fr Df) (hS : ShM B Fr Tm s hs R w) (hB : B ≤ w.heap.size) (hDr : ∀ j (hj : j < hs.length) b, Fw.blk (Cell.v hs[j]) = some b → R j ≠ [] → Df b) (hDv : ∀ b, Fw.blk s = some b → Df b) (hT : ∀ j, R j = [] → Tm j = []) (hlb : ∀ j, hln hs j ≤ 1099511627776) :
    CallV Try.prog 24 [.int .i64 f, .int .i64 k, .int .i64 m, s] w fun v w' => w.heap.size ≤ w'.heap.size ∧ ∃ (len : Nat) (ev : Bool), (cnt f k m hs.length = 0 → Lns (hln hs) hs.length len ev) ∧
      ((wer f k m (hln hs) hs.length len ev ≠ 0 ∧ v = .tuple #[.slice none 0 0, .int .i64 (wer f k m (hln hs) hs.length len ev)] ∧ ShM B Fr Tm s hs R w') ∨
       (wer f k m (hln hs) hs.length len ev = 0 ∧ MOk f k m (hln hs) hs.length len ∧
         ((v = .tuple #[.slice none 0 0, .int .i64 190] ∧ ShM B Fr Tm s hs R w' ∧ ∃ t, t < len ∧ farS f k.toNat (hln hs) hs.length R t) ∨
          (∃ (sw : Value) (G : Nat → List (El 8)) (bo : Nat → Bool) (hs' : List Hd), v = .tuple #[sw, .int .i64 0] ∧ hs'.length = hs.length ∧ ShM B Fr Tm s hs' (rowS f k.toNat G len) w' ∧ (∀ j (hj : j < hs.length) (hj' : j < hs'.length), R j ≠ [] → hs'[j] = hs[j]) ∧ (∀ j (hj' : j < hs'.length), R j = [] → ∀ b, Fw.blk (Cell.v hs'[j]) = some b → w.heap.size ≤ b) ∧
            (∀ t, t < len → nearS f k.toNat (hln hs) hs.length R t (G t)) ∧
            (∀ i, bo i = true ↔ ∃ t, t < len ∧ i ∈ offS f k.toNat (hln hs) hs.length R t (G t)) ∧ Ow w.heap.size w' sw (wrL (hln hs) hs.length bo))))) := by
  refine run_mend_Shards (by simp) ?_
  simp only [c_mend_Shards, WS, ↓reduceIte, Nat.reduceEqDiff, reduceCtorEq]
  refine X_call0 ((mend_work_spec w f k m s hs R hS.top.sl (fun j hj => hS.sl hj) hlb).mono ?_)
  rintro vv w1 ⟨B1, len, ev, hL, ⟨h1, rfl⟩ | ⟨h1, hM, ⟨rfl, hfar⟩ | ⟨bc, sm, sw, CL, G, bo, rfl, hbc, rc, lCL, hE, oz, hbo, ow⟩⟩⟩
  · have hS := hS.up hF B1
    simp (maxSteps := 1000000) (disch := omega) only [WS, ↓reduceIte, Nat.reduceEqDiff, reduceCtorEq, AS, decide_eq_true h1]
    exact ⟨B1.size, len, ev, hL, Or.inl ⟨h1, rfl, hS⟩⟩
  · have hS := hS.up hF B1
    simp (maxSteps := 1000000) (disch := omega) only [WS, ↓reduceIte, Nat.reduceEqDiff, reduceCtorEq, AS, show decide ((190 : Int) ≠ 0) = true from rfl]
    exact ⟨B1.size, len, ev, hL, Or.inr ⟨h1, hM, Or.inl ⟨hS, hfar⟩⟩⟩
  have hSu := hS.up hF B1
  have hk := hM.hk
  have hm := hM.hm
  have hkm := hM.km
  have hn := hM.hn
  have hlen := hM.hlen
  obtain ⟨K, rfl⟩ : ∃ K : Nat, k = (K : Int) := ⟨k.toNat, by omega⟩
  rw [Int.toNat_natCast] at hE hbo
  rw [Int.toNat_natCast]
  have hRL : ∀ j, j < hs.length → (R j).length = hln hs j := fun j hj => by rw [hln_get hs hj, hS.ln hj]
  have hRn : ∀ j, j < hs.length → (R j ≠ [] ↔ hln hs j ≠ 0) := fun j hj => by
    rw [← hRL j hj]
    exact ⟨fun h e => h (List.length_eq_zero_iff.1 e), fun h e => h (by rw [e]; rfl)⟩
  have z1 := B1.size
  have hnp := prsL_len (hln hs) hs.length
  have hz := hM.hz
  have hlb2 : len ≤ 1099511627776 := by
    obtain ⟨a1, a2⟩ := prsL_get (L := hln hs) (n := hs.length) (i := 0) (by omega)
    rw [← (hM.hL _ a1).resolve_left a2]
    exact hlb _
  simp (maxSteps := 1000000) (disch := omega) only [WS, ↓reduceIte, Nat.reduceEqDiff, reduceCtorEq, AS, show decide ((0 : Int) ≠ 0) = false from rfl, hSu.top.sl.Xlen]
  refine loop_of (fun t w' => t 3 = s ∧ t 8 = sw ∧ t 10 = .slice (some ⟨bc, 0, none⟩) len len ∧ t 11 = sm ∧ t 33 = .int .i64 (hs.length : Int) ∧ w1.heap.size ≤ w'.heap.size ∧ ∃ (i : Nat) (Rc : Nat → List (El 8)), t 34 = .int .i64 (i : Int) ∧ i ≤ hs.length ∧ t 12 = .int .i64 ((prsL (hln hs) i).length : Int) ∧ ShM B Fr Tm s hs Rc w' ∧ (∀ j, j < hs.length → Rc j = if j < i ∧ hln hs j ≠ 0 then rowS f K G len j else R j) ∧ Row w' bc (CL.map Cell.v) ∧ Ent w.heap.size w' f K (hln hs) hs.length R CL G len ∧ Ow w.heap.size w' sm (zis (hln hs) hs.length) ∧ Ow w.heap.size w' sw (wrL (hln hs) hs.length bo)) (fun t _ => hs.length - (toI (t 34)).toNat)
    ⟨by simp only [WS, ↓reduceIte, Nat.reduceEqDiff, reduceCtorEq], by simp only [WS, ↓reduceIte, Nat.reduceEqDiff, reduceCtorEq], by simp only [WS, ↓reduceIte, Nat.reduceEqDiff, reduceCtorEq], by simp only [WS, ↓reduceIte, Nat.reduceEqDiff, reduceCtorEq], by simp only [WS, ↓reduceIte, Nat.reduceEqDiff, reduceCtorEq], Nat.le_refl _, 0, R, by simp only [WS, ↓reduceIte, Nat.reduceEqDiff, reduceCtorEq]; rfl, by omega, by simp only [WS, ↓reduceIte, Nat.reduceEqDiff, reduceCtorEq]; rfl, hSu, fun j hj => by rw [if_neg (by omega)], rc, hE, oz, ow⟩ ?_
  clear rc hE oz ow hSu B1
  rintro t w2 ⟨t3, t8, t10, t11, t33, z2, i, Rc, t34, hi, t12, hSc, hRc, rc, hE, oz, ow⟩
  by_cases hil : i < hs.length
  · have hx := hln_get hs hil
    have hsl := hSc.top.sl
    simp (maxSteps := 1000000) (disch := omega) only [WS, ↓reduceIte, Nat.reduceEqDiff, reduceCtorEq, AS, t3, t8, t10, t11, t33, t34, t12, hsl.Xix hil, hsl.Xld hil, cell_hd, X_lenS]
    by_cases h0 : hln hs i = 0
    · have h0' : hs[i].n = 0 := by rw [← hx]; exact h0
      have hps := prsL_succ (hln hs) i
      rw [if_pos h0] at hps
      rw [h0']
      simp (maxSteps := 1000000) (disch := omega) only [WS, ↓reduceIte, Nat.reduceEqDiff, reduceCtorEq, AS, show decide (((0 : Nat) : Int) = 0) = true from rfl, t3, t8, t10, t11, t33, t34, t12]
      refine ⟨⟨z2, i + 1, Rc, rfl, by omega, by rw [hps], hSc, fun j hj => ?_, rc, hE, oz, ow⟩, by omega⟩
      rw [hRc j hj]
      by_cases e : j = i
      · subst e
        rw [if_neg (fun h => h.2 h0), if_neg (fun h => h.2 h0)]
      · by_cases e2 : j < i ∧ hln hs j ≠ 0
        · rw [if_pos e2, if_pos ⟨by omega, e2.2⟩]
        · rw [if_neg e2, if_neg (fun h => e2 ⟨by omega, h.2⟩)]
    have h0' : hs[i].n ≠ 0 := by rw [← hx]; exact h0
    have hRi : R i ≠ [] := (hRn i hil).2 h0
    have hlen2 : (R i).length = len := by rw [hRL i hil]; exact (hM.hL i hil).resolve_left h0
    have hRci : Rc i = R i := by rw [hRc i hil, if_neg (by omega)]
    have hRcc : ∀ j, j < hs.length → (fun y => if y = i then R i else Rc y) j = Rc j := fun j hj => by
      by_cases e : j = i
      · subst e; simp only [if_true]; exact hRci.symm
      · simp only [if_neg e]
    obtain ⟨ci, hci, -, hci2⟩ := (hS.row i hil hRi).blk
    obtain ⟨hpi, hpi2⟩ := prsL_idx (hln hs) h0 hs.length hil
    simp (maxSteps := 1000000) (disch := omega) only [WS, ↓reduceIte, Nat.reduceEqDiff, reduceCtorEq, AS, t3, t8, t10, t11, t33, t34, t12, X_lenS]
    refine loop_of (fun t w' => t 3 = s ∧ t 8 = sw ∧ t 10 = .slice (some ⟨bc, 0, none⟩) len len ∧ t 11 = sm ∧ t 33 = .int .i64 (hs.length : Int) ∧ t 34 = .int .i64 (i : Int) ∧ t 12 = .int .i64 ((prsL (hln hs) i).length : Int) ∧ t 13 = .int .i64 (i : Int) ∧ t 44 = .int .i64 (len : Int) ∧ w1.heap.size ≤ w'.heap.size ∧ ∃ (x : Nat) (X : List (El 8)), t 45 = .int .i64 (x : Int) ∧ x ≤ len ∧ X.length = len ∧ (∀ j, j < x → nth X j = valS f K (G j) i) ∧ ShM B Fr Tm s hs (fun y => if y = i then X else Rc y) w' ∧ Row w' bc (CL.map Cell.v) ∧ Ent w.heap.size w' f K (hln hs) hs.length R CL G len ∧ Ow w.heap.size w' sm (zis (hln hs) hs.length) ∧ Ow w.heap.size w' sw (wrL (hln hs) hs.length bo)) (fun t _ => len - (toI (t 45)).toNat)
      ⟨by simp only [WS, ↓reduceIte, Nat.reduceEqDiff, reduceCtorEq]; exact t3, by simp only [WS, ↓reduceIte, Nat.reduceEqDiff, reduceCtorEq]; exact t8, by simp only [WS, ↓reduceIte, Nat.reduceEqDiff, reduceCtorEq]; exact t10, by simp only [WS, ↓reduceIte, Nat.reduceEqDiff, reduceCtorEq]; exact t11, by simp only [WS, ↓reduceIte, Nat.reduceEqDiff, reduceCtorEq]; exact t33, by simp only [WS, ↓reduceIte, Nat.reduceEqDiff, reduceCtorEq]; exact t34, by simp only [WS, ↓reduceIte, Nat.reduceEqDiff, reduceCtorEq]; exact t12, by simp only [WS, ↓reduceIte, Nat.reduceEqDiff, reduceCtorEq], by simp only [WS, ↓reduceIte, Nat.reduceEqDiff, reduceCtorEq], z2, 0, R i, by simp only [WS, ↓reduceIte, Nat.reduceEqDiff, reduceCtorEq]; rfl, by omega, hlen2, fun j hj => absurd hj (Nat.not_lt_zero _), hSc.congr hRcc, rc, hE, oz, ow⟩ ?_
    clear t3 t8 t10 t11 t33 t34 t12 hSc rc hE oz ow z2 hsl
    rintro t w3 ⟨t3, t8, t10, t11, t33, t34, t12, t13, t44, z3, x, X, t45, hxl, lX, hX, hSc, rc, hE, oz, ow⟩
    by_cases hx2 : x < len
    rotate_left
    · obtain rfl : x = len := by omega
      have hps := prsL_succ (hln hs) i
      rw [if_neg h0] at hps
      have hXr : X = rowS f K G x i := List.ext_getElem (by rw [lX, rowS_len]) fun j a1 a2 => by
        have := hX j (by omega)
        rw [nth_get a1] at this
        rw [this]
        exact (List.getElem_map ..).symm ▸ (by rw [List.getElem_range])
      have e1 : IntKind.i64.wrap (((prsL (hln hs) i).length : Int) + 1) = ((prsL (hln hs) (i + 1)).length : Int) := by
        rw [hps, List.length_append, List.length_singleton, wrap_id (by omega) (by have := prsL_len (hln hs) hs.length; omega)]; rfl
      simp (maxSteps := 1000000) (disch := omega) only [WS, ↓reduceIte, Nat.reduceEqDiff, reduceCtorEq, AS, t3, t8, t10, t11, t33, t34, t12, t13, t44, t45, e1]
      refine ⟨⟨z3, i + 1, _, rfl, by omega, rfl, hSc, fun j hj => ?_, rc, hE, oz, ow⟩, by omega⟩
      by_cases e : j = i
      · subst e
        simp only [if_true]
        rw [if_pos ⟨by omega, h0⟩, hXr]
      · simp only [if_neg e]
        rw [hRc j hj]
        by_cases e2 : j < i ∧ hln hs j ≠ 0
        · rw [if_pos e2, if_pos ⟨by omega, e2.2⟩]
        · rw [if_neg e2, if_neg (fun h => e2 ⟨by omega, h.2⟩)]
    simp (maxSteps := 1000000) (disch := omega) only [WS, ↓reduceIte, Nat.reduceEqDiff, reduceCtorEq, AS, t3, t8, t10, t11, t33, t34, t12, t13, t44, t45]
    refine WP_dops ?_
    have bd := bel_drew w3
    have hSc := hSc.up hF bd
    have z3 := Nat.le_trans z3 bd.size
    have rc := rc.up bd
    have hE := hE.up bd
    have oz := oz.up bd
    have ow := ow.up bd
    clear bd
    have hsl := hSc.top.sl
    obtain ⟨-, hpre, -⟩ := hE x hx2
    have hpre := hpre.sl
    have iC : x * 2 < (CL.map (Cell.v : Hd → Value)).length := by rw [List.length_map]; omega
    have ecs : (CL.map (Cell.v : Hd → Value))[x * 2] = Hj CL (x * 2) := by rw [List.getElem_map, Hj_get (by rw [List.length_map] at iC; exact iC)]
    have iP : (prsL (hln hs) i).length < ((prsL (hln hs) hs.length).map (valS f K (G x))).length := by rw [List.length_map]; exact hpi
    have eP : ((prsL (hln hs) hs.length).map (valS f K (G x)))[(prsL (hln hs) i).length] = valS f K (G x) i := by rw [List.getElem_map, hpi2]
    have hXi : (if i = i then X else Rc i) = X := if_pos rfl
    have hsi := hSc.sl hil
    simp only [hXi] at hsi
    simp (maxSteps := 1000000) (disch := omega) only [ES, List.mem_cons, List.not_mem_nil, implies_true, forall_const, WS, ↓reduceIte, Nat.reduceEqDiff, reduceCtorEq, AS, t3, t8, t10, t11, t33, t34, t12, t13, t44, t45, hsl.Eix hil, hsl.Eld hil, E_ixsW hx2, rc.Eld iC, ecs, hpre.Eix iP, hpre.Eld iP, cell_e8, eP, hsi.Eix (show x < X.length by omega)]
    refine hSc.Est hF hil (by show x < (if i = i then X else Rc i).length; rw [hXi]; omega) (fun b hb => hDr i hil b hb hRi) (valS f K (G x) i) fun w4 c hSc2 hg hc => ?_
    rw [hci] at hc
    cases hc
    have z3 := Nat.le_trans z3 hg.size
    have rc := rc.grown hg fun e => by cases e; omega
    have hE := hE.gr hg hci2
    have oz := oz.gr' hg fun y hy e => by cases hy; have := (oz.blk _ e).1; omega
    have ow := ow.gr' hg fun y hy e => by cases hy; have := (ow.blk _ e).1; omega
    simp (maxSteps := 1000000) (disch := omega) only [ES, List.mem_cons, List.not_mem_nil, implies_true, forall_const, WS, ↓reduceIte, Nat.reduceEqDiff, reduceCtorEq, AS, t3, t8, t10, t11, t33, t34, t12, t13, t44, t45]
    refine ⟨⟨z3, x + 1, X.set x (valS f K (G x) i), rfl, by omega, by rw [List.length_set]; exact lX, fun j hj => ?_, hSc2.congr fun j hj => ?_, rc, hE, oz, ow⟩, by omega⟩
    · rw [nth_set (by omega)]
      split
      · rename_i e; rw [e]
      · exact hX j (by omega)
    · by_cases e : j = i
      · subst e; simp only [if_true]
      · simp only [if_neg e]
  obtain rfl : i = hs.length := by omega
  have ozl : (zis (hln hs) hs.length).length = (misL (hln hs) hs.length).length := List.length_map ..
  simp (maxSteps := 1000000) (disch := omega) only [WS, ↓reduceIte, Nat.reduceEqDiff, reduceCtorEq, AS, t3, t8, t10, t11, t33, t34, t12, oz.sl.Xlen, ozl]
  refine loop_of (fun t w' => t 3 = s ∧ t 8 = sw ∧ t 10 = .slice (some ⟨bc, 0, none⟩) len len ∧ t 66 = sm ∧ t 67 = .int .i64 ((misL (hln hs) hs.length).length : Int) ∧ w1.heap.size ≤ w'.heap.size ∧ ∃ (q : Nat) (hs' : List Hd) (Rd : Nat → List (El 8)), t 68 = .int .i64 (q : Int) ∧ q ≤ (misL (hln hs) hs.length).length ∧ hs'.length = hs.length ∧ ShM B Fr Tm s hs' Rd w' ∧ (∀ j, j < hs.length → Rd j = if hln hs j ≠ 0 ∨ j ∈ (misL (hln hs) hs.length).take q then rowS f K G len j else []) ∧ (∀ j (hj : j < hs.length) (hj' : j < hs'.length), R j ≠ [] → hs'[j] = hs[j]) ∧ (∀ j (hj' : j < hs'.length), R j = [] → Rd j ≠ [] → ∀ b, Fw.blk (Cell.v hs'[j]) = some b → w.heap.size ≤ b) ∧ Row w' bc (CL.map Cell.v) ∧ Ent w.heap.size w' f K (hln hs) hs.length R CL G len ∧ Ow w.heap.size w' sm (zis (hln hs) hs.length) ∧ Ow w.heap.size w' sw (wrL (hln hs) hs.length bo)) (fun t _ => (misL (hln hs) hs.length).length - (toI (t 68)).toNat)
    ⟨by simp only [WS, ↓reduceIte, Nat.reduceEqDiff, reduceCtorEq]; exact t3, by simp only [WS, ↓reduceIte, Nat.reduceEqDiff, reduceCtorEq]; exact t8, by simp only [WS, ↓reduceIte, Nat.reduceEqDiff, reduceCtorEq]; exact t10, by simp only [WS, ↓reduceIte, Nat.reduceEqDiff, reduceCtorEq], by simp only [WS, ↓reduceIte, Nat.reduceEqDiff, reduceCtorEq], z2, 0, hs, Rc, by simp only [WS, ↓reduceIte, Nat.reduceEqDiff, reduceCtorEq]; rfl, by omega, rfl, hSc, fun j hj => ?_, fun j hj hj' _ => rfl, fun j hj' he hn => ?_, rc, hE, oz, ow⟩ ?_
  · rw [hRc j hj, List.take_zero]
    by_cases e : hln hs j = 0
    · rw [if_neg (fun h => h.2 e), if_neg (fun h => h.elim (fun h => h e) fun h => by cases h)]
      exact Classical.byContradiction fun h => (hRn j hj).1 h e
    · rw [if_pos ⟨hj, e⟩, if_pos (Or.inl e)]
  · refine absurd ?_ hn
    rw [hRc j hj', if_neg (fun h => (hRn j hj').2 h.2 he)]
    exact he
  clear t3 t8 t10 t11 t33 t34 t12 hSc hRc rc hE oz ow z2
  rintro t w2 ⟨t3, t8, t10, t66, t67, z2, q, hs', Rd, t68, hq, lhs', hSd, hRd, hk1, hk2, rc, hE, oz, ow⟩
  by_cases hql : q < (misL (hln hs) hs.length).length
  rotate_left
  · obtain rfl : q = (misL (hln hs) hs.length).length := by omega
    rw [List.take_length] at hRd
    have hall : ∀ j, j < hs.length → Rd j = rowS f K G len j := fun j hj => by
      rw [hRd j hj, if_pos]
      by_cases e : hln hs j = 0
      · exact Or.inr (misL_mem.2 ⟨hj, e⟩)
      · exact Or.inl e
    simp (maxSteps := 1000000) (disch := omega) only [WS, ↓reduceIte, Nat.reduceEqDiff, reduceCtorEq, AS, t3, t8, t10, t66, t67, t68]
    refine ⟨by omega, len, ev, hL, Or.inr ⟨h1, hM, Or.inr ⟨sw, G, bo, hs', rfl, lhs', hSd.congr fun j hj => (hall j (by omega)).symm, hk1, fun j hj' he b hb => hk2 j hj' he (fun e => ?_) b hb, fun t ht => (hE t ht).1, hbo, ow⟩⟩⟩
    have := rowS_len f K G len j
    rw [← hall j (by omega), e] at this
    simp at this
    omega
  obtain ⟨hp1, hp2⟩ := misL_mem.1 (List.getElem_mem hql)
  obtain ⟨S, hS'⟩ : ∃ S, S = (misL (hln hs) hs.length)[q] := ⟨_, rfl⟩
  rw [← hS'] at hp1 hp2
  have iq : q < (zis (hln hs) hs.length).length := by omega
  have eq1 : (zis (hln hs) hs.length)[q] = (S : Int) := by rw [hS']; exact List.getElem_map ..
  simp (maxSteps := 1000000) (disch := omega) only [WS, ↓reduceIte, Nat.reduceEqDiff, reduceCtorEq, AS, t3, t8, t10, t66, t67, t68, oz.sl.Xix iq, oz.sl.Xld iq, cell_int, eq1, X_lenS]
  refine X_mks (x := (0 : El 8)) (n := len) (by simp only [maxBytes]; omega) (by omega) fun sn w3 on hB3 => ?_
  simp (maxSteps := 1000000) (disch := omega) only [WS, ↓reduceIte, Nat.reduceEqDiff, reduceCtorEq, AS, t3, t8, t10, t66, t67, t68, X_lenS]
  refine loop_of (fun t w' => t 3 = s ∧ t 8 = sw ∧ t 10 = .slice (some ⟨bc, 0, none⟩) len len ∧ t 66 = sm ∧ t 67 = .int .i64 ((misL (hln hs) hs.length).length : Int) ∧ t 68 = .int .i64 (q : Int) ∧ t 15 = .int .i64 (q : Int) ∧ t 16 = .int .i64 (S : Int) ∧ t 17 = sn ∧ t 77 = .int .i64 (len : Int) ∧ RowKit.Below w2.heap.size w2 w' ∧ ∃ (x : Nat) (X : List (El 8)), t 78 = .int .i64 (x : Int) ∧ x ≤ len ∧ X.length = len ∧ (∀ j, j < x → nth X j = valS f K (G j) S) ∧ Ow w2.heap.size w' sn X) (fun t _ => len - (toI (t 78)).toNat)
    ⟨by simp only [WS, ↓reduceIte, Nat.reduceEqDiff, reduceCtorEq]; exact t3, by simp only [WS, ↓reduceIte, Nat.reduceEqDiff, reduceCtorEq]; exact t8, by simp only [WS, ↓reduceIte, Nat.reduceEqDiff, reduceCtorEq]; exact t10, by simp only [WS, ↓reduceIte, Nat.reduceEqDiff, reduceCtorEq]; exact t66, by simp only [WS, ↓reduceIte, Nat.reduceEqDiff, reduceCtorEq]; exact t67, by simp only [WS, ↓reduceIte, Nat.reduceEqDiff, reduceCtorEq]; exact t68, by simp only [WS, ↓reduceIte, Nat.reduceEqDiff, reduceCtorEq], by simp only [WS, ↓reduceIte, Nat.reduceEqDiff, reduceCtorEq], by simp only [WS, ↓reduceIte, Nat.reduceEqDiff, reduceCtorEq], by simp only [WS, ↓reduceIte, Nat.reduceEqDiff, reduceCtorEq], hB3, 0, _, by simp only [WS, ↓reduceIte, Nat.reduceEqDiff, reduceCtorEq]; rfl, by omega, List.length_replicate .., fun j hj => absurd hj (Nat.not_lt_zero _), on⟩ ?_
  clear t3 t8 t10 t66 t67 t68 on hB3
  rintro t w4 ⟨t3, t8, t10, t66, t67, t68, t15, t16, t17, t77, E, x, X, t78, hxl, lX, hX, on⟩
  have rc4 := rc.up E
  have hE4 := hE.up E
  by_cases hx2 : x < len
  · obtain ⟨-, -, hmis⟩ := hE4 x hx2
    have hmis := hmis.sl
    have iC : x * 2 + 1 < (CL.map (Cell.v : Hd → Value)).length := by rw [List.length_map]; omega
    have ecs : (CL.map (Cell.v : Hd → Value))[x * 2 + 1] = Hj CL (x * 2 + 1) := by rw [List.getElem_map, Hj_get (by rw [List.length_map] at iC; exact iC)]
    have iP : q < ((misL (hln hs) hs.length).map (valS f K (G x))).length := by rw [List.length_map]; exact hql
    have eP : ((misL (hln hs) hs.length).map (valS f K (G x)))[q] = valS f K (G x) S := by rw [List.getElem_map, hS']
    have ix : x < X.length := by omega
    simp (maxSteps := 1000000) (disch := omega) only [WS, ↓reduceIte, Nat.reduceEqDiff, reduceCtorEq, AS, t3, t8, t10, t66, t67, t68, t15, t16, t17, t77, t78, X_ixsW hx2, rc4.Xld iC, ecs, hmis.Xix iP, hmis.Xld iP, cell_e8, eP, on.sl.Xix ix]
    refine Ow.Xst on ix (valS f K (G x) S) fun w5 on2 hg => ?_
    have E := Below.app E E.size hg fun b hb => (on.blk b hb).1
    simp (maxSteps := 1000000) (disch := omega) only [WS, ↓reduceIte, Nat.reduceEqDiff, reduceCtorEq, AS, t3, t8, t10, t66, t67, t68, t15, t16, t17, t77, t78]
    refine ⟨⟨E, x + 1, _, rfl, by omega, by rw [List.length_set]; exact lX, fun j hj => ?_, on2⟩, by omega⟩
    rw [nth_set ix]
    split
    · rename_i e; rw [e]
    · exact hX j (by omega)
  obtain rfl : x = len := by omega
  have hXr : X = rowS f K G x S := List.ext_getElem (by rw [lX, rowS_len]) fun j a1 a2 => by
    have := hX j (by omega)
    rw [nth_get a1] at this
    rw [this]
    exact (List.getElem_map ..).symm ▸ (by rw [List.getElem_range])
  have hSd4 := hSd.up hF E
  have iS : S < hs'.length := by omega
  have hRS : R S = [] := Classical.byContradiction fun h => (hRn S hp1).1 h hp2
  have hRdS : Rd S = [] := by
    rw [hRd S hp1, if_neg]
    rintro (h | h)
    · exact h hp2
    · obtain ⟨j, hj, e⟩ := List.mem_take_iff_getElem.1 h
      have hnd : (misL (hln hs) hs.length).Pairwise (· < ·) := List.Pairwise.filter _ List.pairwise_lt_range
      have := List.pairwise_iff_getElem.1 hnd j q (by omega) hql (by omega)
      rw [e, ← hS'] at this
      omega
  have hXn : X ≠ [] := fun e => by rw [e] at lX; simp at lX; omega
  have hsv : Cell.v (hd sn) = sn := on.sl.hd.1
  have z4 := E.size
  have oz4 := oz.up E
  have ow4 := ow.up E
  simp (maxSteps := 1000000) (disch := omega) only [WS, ↓reduceIte, Nat.reduceEqDiff, reduceCtorEq, AS, t3, t8, t10, t66, t67, t68, t15, t16, t17, t77, t78, hSd4.top.sl.Xix iS]
  rw [← hsv]
  refine ShM.Xput hF hSd hSd4 iS hRdS (hT S hRS) hDv (hd sn) hXn (by rw [hsv]; exact on) (by omega) fun w5 c hSd5 hg hc => ?_
  obtain ⟨-, hc2⟩ := hS.top.blk c hc
  have z5 := hg.size
  have rc5 := rc4.grown hg fun e => by cases e; omega
  have hE5 := hE4.gr hg hc2
  have oz5 := oz4.gr' hg fun y hy e => by cases hy; have := (oz4.blk _ e).1; omega
  have ow5 := ow4.gr' hg fun y hy e => by cases hy; have := (ow4.blk _ e).1; omega
  have htk : ∀ j, j ∈ (misL (hln hs) hs.length).take (q + 1) ↔ j ∈ (misL (hln hs) hs.length).take q ∨ j = S := fun j => by
    rw [List.take_succ_eq_append_getElem hql, List.mem_append, List.mem_singleton, hS']
  simp (maxSteps := 1000000) (disch := omega) only [WS, ↓reduceIte, Nat.reduceEqDiff, reduceCtorEq, AS, t3, t8, t10, t66, t67, t68]
  refine ⟨⟨by omega, q + 1, hs'.set S (hd sn), _, rfl, by omega, by rw [List.length_set]; exact lhs', hSd5, fun j hj => ?_, fun j hj hj' hn => ?_, fun j hj' he hn b hb => ?_, rc5, hE5, oz5, ow5⟩, by omega⟩
  · by_cases e : j = S
    · subst e
      simp only [if_true]
      rw [if_pos (Or.inr ((htk j).2 (Or.inr rfl))), hXr]
    · simp only [if_neg e]
      rw [hRd j hj]
      by_cases e2 : hln hs j ≠ 0 ∨ j ∈ (misL (hln hs) hs.length).take q
      · rw [if_pos e2, if_pos (e2.elim Or.inl fun h => Or.inr ((htk j).2 (Or.inl h)))]
      · rw [if_neg e2, if_neg (fun h => e2 (h.elim Or.inl fun h => Or.inr (((htk j).1 h).resolve_right e)))]
  · have e : S ≠ j := fun e => by subst e; exact hn hRS
    rw [List.getElem_set_ne e]
    exact hk1 j hj _ hn
  · rw [List.length_set] at hj'
    by_cases e : S = j
    · subst e
      rw [List.getElem_set_self, hsv] at hb
      have := (on.blk b hb).1
      omega
    · rw [List.getElem_set_ne e] at hb
      refine hk2 j hj' he ?_ b hb
      simp only [if_neg (fun e' => e (Eq.symm e'))] at hn
      exact hn
end Go.Proofs.Ytbaljbadlfopgaa.Fw

set_option linter.unusedVariables false
set_option linter.unusedSimpArgs false
set_option maxRecDepth 100000
set_option maxHeartbeats 1000000
namespace Go.Proofs.Ytbaljbadlfopgaa.Fw
open Go Go.Fw Go.Proofs
attribute [local irreducible] stepI
end Go.Proofs.Ytbaljbadlfopgaa.Fw
namespace Go.Proofs.Ytbaljbadlfopgaa.Fw
open Go Go.Fw
theorem rows_of {w : World} {hs : List Hd} {b : Nat} (h : ∀ x ∈ hs, ∃ l : List (El 8), Sl w (Cell.v x) l ∧ l.length * 1 ≤ b ∧ ∀ y ∈ l, True) : ∃ R : Nat → List (El 8), ∀ j (hj : j < hs.length), Sl w (Cell.v hs[j]) (R j) ∧ (R j).length ≤ b := by
  refine ⟨fun j => if hj : j < hs.length then Classical.choose (h _ (List.getElem_mem hj)) else [], fun j hj => ?_⟩
  have := Classical.choose_spec (h _ (List.getElem_mem hj))
  simp only [dif_pos hj]
  exact ⟨this.1, by have := this.2.1; omega⟩
theorem hln_row {w : World} {hs : List Hd} {R : Nat → List (El 8)} (hr : ∀ j (hj : j < hs.length), Sl w (Cell.v hs[j]) (R j)) {j : Nat} (hj : j < hs.length) : hln hs j = (R j).length := by
  obtain ⟨a, c, e, -⟩ := (hr j hj).sh
  rw [hln_get hs hj]
  injection e
end Go.Proofs.Ytbaljbadlfopgaa.Fw

/- Lagrange's form, over any points. -/
set_option linter.unusedVariables false
set_option linter.unusedSimpArgs false
namespace Go.Fw
open Go
section
variable {n : Nat} [F : Fd n]
def gsum : Nat → (Nat → El n) → El n
  | 0, _ => 0
  | k + 1, g => gsum k g + g k
theorem gsum_congr {f g : Nat → El n} : ∀ {k : Nat}, (∀ i, i < k → f i = g i) → gsum k f = gsum k g
  | 0, _ => rfl
  | k + 1, h => by show gsum k f + f k = gsum k g + g k; rw [gsum_congr fun i hi => h i (by omega), h k (by omega)]
theorem gsum_mul (c : El n) (f : Nat → El n) : ∀ k, gsum k (fun i => c * f i) = c * gsum k f
  | 0 => (El.mul_zero c).symm
  | k + 1 => by show gsum k _ + c * f k = c * (gsum k f + f k); rw [gsum_mul c f k, El.mul_add]
theorem gsum_one {f : Nat → El n} {k j : Nat} (hj : j < k) (h : ∀ i, i < k → i ≠ j → f i = 0) : gsum k f = f j := by
  induction k with
  | zero => omega
  | succ k ih =>
    show gsum k f + f k = f j
    by_cases e : j = k
    · subst e
      have : ∀ m, m ≤ j → gsum m f = 0 := fun m => by
        induction m with
        | zero => intro _; rfl
        | succ m ih2 => intro hm; show gsum m f + f m = 0; rw [ih2 (by omega), h m (by omega) (by omega), El.add_zero]
      rw [this j (Nat.le_refl _), El.zero_add]
    · rw [ih (by omega) fun i hi hij => h i (by omega) hij, h k (by omega) (fun e' => e e'.symm), El.add_zero]
/-- The product of z + X t over the t below, but l. -/
def ppr (X : Nat → El n) (l : Nat) (z : El n) : Nat → El n
  | 0 => 1
  | t + 1 => if t = l then ppr X l z t else ppr X l z t * (z + X t)
def pps (X : Nat → El n) (l : Nat) : Nat → Ps n
  | 0 => 1
  | t + 1 => if t = l then pps X l t else lin (X t) * pps X l t
theorem pps_dg (X : Nat → El n) (l : Nat) : ∀ t, Dg (pps X l t) (t + 1)
  | 0 => Dg.one
  | t + 1 => by
    unfold pps
    split
    · exact (pps_dg X l t).mono (by omega)
    · exact (pps_dg X l t).lin_mul (X t)
theorem pps_dg' (X : Nat → El n) (l : Nat) : ∀ t, l < t → Dg (pps X l t) t
  | 0, h => absurd h (Nat.not_lt_zero _)
  | t + 1, h => by
    unfold pps
    split
    · exact pps_dg X l t
    · exact (pps_dg' X l t (by omega)).lin_mul (X t)
theorem pps_ev (X : Nat → El n) (l : Nat) (z : El n) : ∀ t, evn (pps X l t) z (t + 1) = ppr X l z t
  | 0 => by
    show (1 : Ps n).c 0 + z * evn (1 : Ps n).sh z 0 = 1
    rw [show evn (1 : Ps n).sh z 0 = 0 from rfl, El.mul_zero, El.add_zero]; rfl
  | t + 1 => by
    unfold pps ppr
    split
    · rw [← pps_ev X l z t]; exact evn_eq ((pps_dg X l t).mono (by omega)) (pps_dg X l t)
    · rw [← pps_ev X l z t, ev_lin_mul (X t) z (pps_dg X l t), El.mul_comm, El.add_comm]
theorem ppr_zero (X : Nat → El n) {l j : Nat} (hj : j ≠ l) : ∀ t, j < t → ppr X l (X j) t = 0
  | 0, h => absurd h (Nat.not_lt_zero _)
  | t + 1, h => by
    unfold ppr
    split
    · exact ppr_zero X hj t (by omega)
    · by_cases e : j = t
      · subst e; rw [El.add_self, El.mul_zero]
      · rw [ppr_zero X hj t (by omega), El.zero_mul]
theorem ppr_ne {X : Nat → El n} {z : El n} {l : Nat} : ∀ t, (∀ j, j < t → j ≠ l → z ≠ X j) → ppr X l z t ≠ 0
  | 0, _ => El.one_ne
  | t + 1, h => by
    unfold ppr
    split
    · exact ppr_ne t fun j hj => h j (by omega)
    · rename_i hne
      refine fun e => (El.mul_eq_zero.1 e).elim (ppr_ne t fun j hj => h j (by omega)) fun e => h t (by omega) hne (El.eq_of_add e)
def lgs (X Y : Nat → El n) (k : Nat) : Nat → Ps n
  | 0 => 0
  | l + 1 => lgs X Y k l + Ps.C (Y l * (ppr X l (X l) k).inv) * pps X l k
theorem lgs_dg (X Y : Nat → El n) (k : Nat) : ∀ l, l ≤ k → Dg (lgs X Y k l) k
  | 0, _ => fun _ _ => rfl
  | l + 1, h => (lgs_dg X Y k l (by omega)).add (Cm_dg _ (pps_dg' X l k (by omega)))
theorem lgs_ev (X Y : Nat → El n) (k : Nat) (z : El n) : ∀ l, evn (lgs X Y k l) z (k + 1) = gsum l fun l => Y l * (ppr X l (X l) k).inv * ppr X l z k
  | 0 => evn_zero z _
  | l + 1 => by
    show evn (lgs X Y k l + _) z (k + 1) = gsum l _ + _
    rw [evn_add, lgs_ev X Y k z l, ev_Cm, pps_ev]
/-- A short polynomial's value, by those at k points. -/
theorem lagr {X : Nat → El n} {k : Nat} (hX : ∀ a b, a < k → b < k → X a = X b → a = b) {g : List (El n)} (hg : g.length ≤ k) (z : El n) :
    evl g z = gsum k fun l => evl g (X l) * (ppr X l (X l) k).inv * ppr X l z k := by
  have hd : Dg (co g + lgs X (fun l => evl g (X l)) k k) k := ((co_dg g).mono hg).add (lgs_dg X _ k k (Nat.le_refl _))
  have he : ∀ z, evn (co g + lgs X (fun l => evl g (X l)) k k) z (k + 1) = evl g z + gsum k fun l => evl g (X l) * (ppr X l (X l) k).inv * ppr X l z k := fun z => by
    rw [evn_add, lgs_ev, evl_co, evn_eq ((co_dg g).mono (show g.length ≤ k + 1 by omega)) (co_dg g)]
  have h0 := zero_of X 0 k hd (fun a b ha hb e => hX a b ha hb (by simpa using e)) fun j hj => by
    rw [Nat.zero_add, ← evn_eq (hd.mono (Nat.le_succ k)) hd, he, gsum_one hj fun i hi hij => by rw [ppr_zero X (fun e => hij e.symm) k hj, El.mul_zero]]
    rw [El.mul_assoc, El.mul_comm _ (ppr X j (X j) k), El.mul_inv _ (ppr_ne k fun i hi hij e => hij (hX j i hj hi e).symm), El.mul_one, El.add_self]
  have := he z
  rw [h0, evn_zero] at this
  exact El.eq_of_add this.symm
end
end Go.Fw

set_option linter.unusedVariables false
set_option linter.unusedSimpArgs false
set_option maxRecDepth 100000
set_option maxHeartbeats 1000000
namespace Go.Proofs.Ytbaljbadlfopgaa.Fw
open Go Go.Fw Go.Proofs
attribute [local irreducible] stepI
end Go.Proofs.Ytbaljbadlfopgaa.Fw
namespace Go.Proofs.Ytbaljbadlfopgaa.Fw
open Go Go.Fw
/-- isColumn's term of l: with t factors done. -/
def vtm (xi c : El 8) (l : Nat) : Nat → El 8
  | 0 => c * (xi + en8 l).inv
  | t + 1 => if t = l then vtm xi c l t else vtm xi c l t * (xi + en8 t) * (en8 l + en8 t).inv
/-- The term of l in the sum for row i. -/
def ctm (f : Int) (k : Nat) (i : Nat) (c : El 8) (l : Nat) : El 8 := if f = 0 then vtm (en8 i) c l k * (en8 i + en8 l) else c * (en8 i + en8 l).inv
/-- Is this a codeword's column? -/
def isCol (f : Int) (k n : Nat) (C : Nat → El 8) : Prop := ∀ i, k ≤ i → i < n → gsum k (fun l => ctm f k i (C l) l) = C i
theorem en8_ne {a b : Nat} (ha : a < 256) (hb : b < 256) (h : a ≠ b) : en8 a + en8 b ≠ 0 := fun e => h (en8_inj ha hb (El.eq_of_add e))
end Go.Proofs.Ytbaljbadlfopgaa.Fw

set_option linter.unusedVariables false
set_option linter.unusedSimpArgs false
set_option maxRecDepth 100000
set_option maxHeartbeats 1000000
namespace Go.Proofs.Ytbaljbadlfopgaa.Fw
open Go Go.Fw Go.Proofs
attribute [local irreducible] stepI

end Go.Proofs.Ytbaljbadlfopgaa.Fw
namespace Go.Proofs.Ytbaljbadlfopgaa.Fw
open Go Go.Fw
instance : Std.Associative (α := El 8) (· * ·) := ⟨El.mul_assoc⟩
instance : Std.Commutative (α := El 8) (· * ·) := ⟨El.mul_comm⟩
theorem inv_uniq8 {x y : El 8} (hx : x ≠ 0) (h : x * y = 1) : y = x.inv := by
  have h1 : y * (x * x.inv) = x.inv := by
    rw [← El.mul_assoc, El.mul_comm y x, h, El.one_mul]
  rw [El.mul_inv x hx, El.mul_one] at h1
  exact h1
theorem inv_mul8 {a b : El 8} (ha : a ≠ 0) (hb : b ≠ 0) : (a * b).inv = a.inv * b.inv := by
  refine (inv_uniq8 (fun e => (El.mul_eq_zero.1 e).elim ha hb) ?_).symm
  have : a * b * (a.inv * b.inv) = (a * a.inv) * (b * b.inv) := by ac_rfl
  rw [this, El.mul_inv a ha, El.mul_inv b hb, El.mul_one]
theorem inv_one8 : (1 : El 8).inv = 1 := (inv_uniq8 El.one_ne (El.mul_one 1)).symm
theorem wpr_ppr (s : Nat) : ∀ l, wpr s l = ppr en8 s (en8 s) l
  | 0 => rfl
  | l + 1 => by
    unfold wpr ppr
    split
    · exact wpr_ppr s l
    · rw [wpr_ppr s l]
theorem wpr_out {i l : Nat} : ∀ k, l < k → k ≤ i → wpr i k = ppr en8 l (en8 i) k * (en8 i + en8 l)
  | 0, h, _ => absurd h (Nat.not_lt_zero _)
  | k + 1, h, hi => by
    have e1 : wpr i (k + 1) = wpr i k * (en8 i + en8 k) := by show (if k = i then _ else _) = _; rw [if_neg (by omega)]
    rw [e1]
    by_cases e : k = l
    · subst e
      have e2 : ppr en8 k (en8 i) (k + 1) = ppr en8 k (en8 i) k := by show (if k = k then _ else _) = _; rw [if_pos rfl]
      have e3 : ∀ m, m ≤ k → wpr i m = ppr en8 k (en8 i) m := fun m => by
        induction m with
        | zero => intro _; rfl
        | succ m ih =>
          intro hm
          have a1 : wpr i (m + 1) = wpr i m * (en8 i + en8 m) := by show (if m = i then _ else _) = _; rw [if_neg (by omega)]
          have a2 : ppr en8 k (en8 i) (m + 1) = ppr en8 k (en8 i) m * (en8 i + en8 m) := by show (if m = k then _ else _) = _; rw [if_neg (by omega)]
          rw [a1, a2, ih (by omega)]
      rw [e2, e3 k (Nat.le_refl _)]
    · have e2 : ppr en8 l (en8 i) (k + 1) = ppr en8 l (en8 i) k * (en8 i + en8 k) := by show (if k = l then _ else _) = _; rw [if_neg e]
      rw [e2, wpr_out (i := i) (l := l) k (by omega) (by omega)]
      ac_rfl
theorem en8_dist {k : Nat} (hk : k ≤ 256) : ∀ a b, a < k → b < k → en8 a = en8 b → a = b := fun a b ha hb e => en8_inj (by omega) (by omega) e
theorem vtm_eq {i l : Nat} (c : El 8) (hl : l < 256) : ∀ t, t ≤ 256 → vtm (en8 i) c l t = c * (en8 i + en8 l).inv * ppr en8 l (en8 i) t * (ppr en8 l (en8 l) t).inv
  | 0, _ => by
    show c * (en8 i + en8 l).inv = c * (en8 i + en8 l).inv * 1 * (1 : El 8).inv
    rw [inv_one8, El.mul_one, El.mul_one]
  | t + 1, h => by
    have ih := vtm_eq (i := i) c hl t (by omega)
    by_cases e : t = l
    · have a1 : vtm (en8 i) c l (t + 1) = vtm (en8 i) c l t := by show (if t = l then _ else _) = _; rw [if_pos e]
      have a2 : ∀ z, ppr en8 l z (t + 1) = ppr en8 l z t := fun z => by show (if t = l then _ else _) = _; rw [if_pos e]
      rw [a1, a2, a2, ih]
    · have a1 : vtm (en8 i) c l (t + 1) = vtm (en8 i) c l t * (en8 i + en8 t) * (en8 l + en8 t).inv := by show (if t = l then _ else _) = _; rw [if_neg e]
      have a2 : ∀ z, ppr en8 l z (t + 1) = ppr en8 l z t * (z + en8 t) := fun z => by show (if t = l then _ else _) = _; rw [if_neg e]
      have n1 : ppr en8 l (en8 l) t ≠ 0 := ppr_ne t fun j hj hjl e => hjl (en8_inj hl (by omega) e).symm
      rw [a1, a2, a2, ih, inv_mul8 n1 (en8_ne hl (by omega) (fun e' => e e'.symm))]
      ac_rfl
/-- The values of a short polynomial, unweighted, are a codeword's column. -/
theorem isCol_val {f : Int} {K n : Nat} (hf : f = 0 ∨ f = 1) (hn : n ≤ 256) (hK : K ≤ n) {g : List (El 8)} (hg : g.length ≤ K) : isCol f K n (valS f K g) := fun i hi1 hi2 => by
  have hL := lagr (en8_dist (k := K) (by omega)) hg (en8 i)
  have n1 : ∀ l, l < K → ppr en8 l (en8 l) K ≠ 0 := fun l hl => ppr_ne K fun j hj hjl e => hjl (en8_inj (by omega) (by omega) e).symm
  have n2 : ∀ l, l < K → en8 i + en8 l ≠ 0 := fun l hl => en8_ne (by omega) (by omega) (by omega)
  rcases hf with rfl | rfl
  · have hv : ∀ s, valS 0 K g s = evl g (en8 s) := fun s => by
      unfold valS wt
      rw [if_neg (by decide), inv_one8, El.mul_one]
    rw [hv i, hL]
    refine gsum_congr fun l hl => ?_
    rw [hv l]
    unfold ctm
    rw [if_pos rfl, vtm_eq _ (by omega) K (by omega)]
    have : evl g (en8 l) * (en8 i + en8 l).inv * ppr en8 l (en8 i) K * (ppr en8 l (en8 l) K).inv * (en8 i + en8 l) = evl g (en8 l) * (ppr en8 l (en8 l) K).inv * ppr en8 l (en8 i) K * ((en8 i + en8 l) * (en8 i + en8 l).inv) := by ac_rfl
    rw [this, El.mul_inv _ (n2 l hl), El.mul_one]
  · have hw : ∀ s, wt 1 K s = wpr s K := fun s => by unfold wt; rw [if_pos rfl]
    have hv : ∀ s, valS 1 K g s = evl g (en8 s) * (wpr s K).inv := fun s => by unfold valS; rw [hw]
    rw [hv i, hL, El.mul_comm, ← gsum_mul]
    refine gsum_congr fun l hl => ?_
    rw [hv l, wpr_ppr l]
    unfold ctm
    rw [if_neg (by decide)]
    have n3 : ppr en8 l (en8 i) K ≠ 0 := ppr_ne K fun j hj hjl e => by have := en8_inj (a := i) (b := j) (by omega) (by omega) e; omega
    rw [wpr_out K hl hi1, inv_mul8 n3 (n2 l hl)]
    have : (ppr en8 l (en8 i) K).inv * (en8 i + en8 l).inv * (evl g (en8 l) * (ppr en8 l (en8 l) K).inv * ppr en8 l (en8 i) K) = evl g (en8 l) * (ppr en8 l (en8 l) K).inv * (en8 i + en8 l).inv * (ppr en8 l (en8 i) K * (ppr en8 l (en8 i) K).inv) := by ac_rfl
    rw [this, El.mul_inv _ n3, El.mul_one]
theorem filter_getD (l : List Nat) (p : Nat → Bool) : ((List.range l.length).filter fun i => p (l.getD i 0)).map (fun i => l.getD i 0) = l.filter p := by
  have h : (List.range l.length).map (fun i => l.getD i 0) = l := List.ext_getElem (by simp) fun i h1 h2 => by
    rw [List.getElem_map, List.getElem_range, List.getD_eq_getElem?_getD, List.getElem?_eq_getElem h2]; rfl
  have := List.filter_map (p := p) (f := fun i => l.getD i 0) (l := List.range l.length)
  rw [h] at this
  rw [this]
  rfl
theorem off_iff {f : Int} {K : Nat} {L : Nat → Nat} {n : Nat} {R : Nat → List (El 8)} {t i : Nat} {g : List (El 8)} (hn : n ≤ 256) (hK : K ≤ 256) (hi : i < (prsL L n).length) : i ∈ offS f K L n R t g ↔ nth (R (prsL L n)[i]) t ≠ valS f K g (prsL L n)[i] := by
  have hw : wt f K (prsL L n)[i] ≠ 0 := wt_ne (by have := (prsL_get hi).1; omega) hK
  unfold offS
  rw [offs_mem, xsS_nth hi, ysS_nth hi]
  refine ⟨fun ⟨_, h⟩ e => h ?_, fun h => ⟨hi, fun e => h ?_⟩⟩
  · rw [e]
    unfold valS
    rw [El.mul_comm (evl g _), ← El.mul_assoc, El.mul_inv _ hw, El.one_mul]
  · unfold valS
    rw [e]
    have : wt f K (prsL L n)[i] * nth (R (prsL L n)[i]) t * (wt f K (prsL L n)[i]).inv = nth (R (prsL L n)[i]) t * (wt f K (prsL L n)[i] * (wt f K (prsL L n)[i]).inv) := by ac_rfl
    rw [this, El.mul_inv _ hw, El.mul_one]
theorem getD_get {l : List Nat} {i : Nat} (h : i < l.length) : l.getD i 0 = l[i] := by rw [List.getD_eq_getElem?_getD, List.getElem?_eq_getElem h]; rfl
theorem offS_len {f : Int} {K : Nat} {L : Nat → Nat} {n : Nat} {R : Nat → List (El 8)} {t : Nat} {g : List (El 8)} (hn : n ≤ 256) (hK : K ≤ 256) : (offS f K L n R t g).length = ((prsL L n).filter fun s => !decide (nth (R s) t = valS f K g s)).length := by
  rw [← filter_getD, List.length_map]
  unfold offS offs
  congr 1
  refine List.filter_congr fun i hi => ?_
  have hi := List.mem_range.1 hi
  have := off_iff (f := f) (R := R) (t := t) (g := g) hn hK hi
  unfold offS at this
  rw [offs_mem] at this
  rw [getD_get hi]
  congr 1
  refine decide_eq_decide.2 ⟨fun e => Classical.byContradiction fun h => (this.2 h).2 e, fun e => Classical.byContradiction fun h => this.1 ⟨hi, h⟩ e⟩
theorem rowS_get {f : Int} {k : Nat} {G : Nat → List (El 8)} {len s t : Nat} (h : t < (rowS f k G len s).length) : (rowS f k G len s)[t] = valS f k (G t) s := by
  have h2 : t < ((List.range len).map fun t => valS f k (G t) s).length := h
  have : ((List.range len).map fun t => valS f k (G t) s)[t] = valS f k (G t) s := by rw [List.getElem_map, List.getElem_range]
  exact this
theorem rowS_eq {f : Int} {k : Nat} {G : Nat → List (El 8)} {len s : Nat} {r : List (El 8)} (hr : r.length = len) : r = rowS f k G len s ↔ ∀ t, t < len → nth r t = valS f k (G t) s := by
  constructor
  · intro h t ht
    rw [h, nth_get (by rw [rowS_len]; exact ht)]
    exact rowS_get _
  · intro h
    refine List.ext_getElem (by rw [rowS_len, hr]) fun t h1 h2 => ?_
    have := h t (by omega)
    rw [nth_get h1] at this
    rw [this]
    exact (rowS_get _).symm
/-- The shards that are told are just those that differ. -/
theorem wrL_eq {f : Int} {K : Nat} {L : Nat → Nat} {n len : Nat} {R : Nat → List (El 8)} {G : Nat → List (El 8)} {bo : Nat → Bool} (hn : n ≤ 256) (hK : K ≤ 256) (hR : ∀ s, s ∈ prsL L n → (R s).length = len) (hb : ∀ i, bo i = true ↔ ∃ t, t < len ∧ i ∈ offS f K L n R t (G t)) :
    wrL L n bo = ((prsL L n).filter fun s => !decide (R s = rowS f K G len s)).map fun (j : Nat) => (j : Int) := by
  rw [← filter_getD, List.map_map]
  unfold wrL
  have : (List.range (prsL L n).length).filter bo = (List.range (prsL L n).length).filter fun i => !decide (R ((prsL L n).getD i 0) = rowS f K G len ((prsL L n).getD i 0)) := List.filter_congr fun i hi => by
    have hi := List.mem_range.1 hi
    rw [getD_get hi]
    have hr := hR _ (List.getElem_mem hi)
    have h1 : bo i = true ↔ ¬ R (prsL L n)[i] = rowS f K G len (prsL L n)[i] := by
      rw [hb i, rowS_eq hr]
      constructor
      · rintro ⟨t, ht, hm⟩ h
        exact (off_iff hn hK hi).1 hm (h t ht)
      · intro h
        obtain ⟨t, ht⟩ := Classical.not_forall.1 h
        obtain ⟨ht, hne⟩ := Classical.not_imp.1 ht
        exact ⟨t, ht, (off_iff hn hK hi).2 hne⟩
    by_cases h2 : R (prsL L n)[i] = rowS f K G len (prsL L n)[i]
    · rw [decide_eq_true h2]
      cases hbi : bo i
      · rfl
      · exact absurd h2 (h1.1 hbi)
    · rw [decide_eq_false h2]
      exact h1.2 h2
  rw [this]
  rfl
end Go.Proofs.Ytbaljbadlfopgaa.Fw
