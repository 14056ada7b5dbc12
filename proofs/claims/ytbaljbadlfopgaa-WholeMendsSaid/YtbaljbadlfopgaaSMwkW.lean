import Derived.Test.YtbaljbadlfopgaaProg
import Derived.Test.YtbaljbadlfopgaaFwTW
import Derived.Test.YtbaljbadlfopgaaSMwtsW
import Derived.Test.YtbaljbadlfopgaaFwStW
set_option linter.all false
set_option linter.unusedVariables false
set_option linter.unusedSimpArgs false
set_option maxRecDepth 100000
set_option maxHeartbeats 1000000
namespace Go.Proofs.Ytbaljbadlfopgaa.Fw
open Go Go.Fw Go.Proofs
attribute [local irreducible] stepI

end Go.Proofs.Ytbaljbadlfopgaa.Fw
namespace Go.Proofs.Ytbaljbadlfopgaa.Fw
open Go Go.Fw
/-- The numbers of the shards that are there. -/
def prsL (L : Nat → Nat) (n : Nat) : List Nat := (List.range n).filter fun j => !decide (L j = 0)
theorem prsL_succ (L : Nat → Nat) (n : Nat) : prsL L (n + 1) = if L n = 0 then prsL L n else prsL L n ++ [n] := by
  unfold prsL
  rw [List.range_succ, List.filter_append]
  by_cases h : L n = 0
  · rw [if_pos h]; simp [h]
  · rw [if_neg h]; simp [h]
theorem prsL_mem {L : Nat → Nat} {n j : Nat} : j ∈ prsL L n ↔ j < n ∧ L j ≠ 0 := by
  unfold prsL
  rw [List.mem_filter, List.mem_range]
  simp
theorem prsL_len (L : Nat → Nat) : ∀ n, (prsL L n).length + (zis L n).length = n
  | 0 => rfl
  | n + 1 => by
    rw [prsL_succ, zis_succ]
    have := prsL_len L n
    split
    · rw [List.length_append]; simp only [List.length_singleton]; omega
    · rw [List.length_append]; simp only [List.length_singleton]; omega
theorem prsL_pw (L : Nat → Nat) (n : Nat) : (prsL L n).Pairwise (· < ·) := List.Pairwise.filter _ List.pairwise_lt_range
theorem prsL_get {L : Nat → Nat} {n i : Nat} (h : i < (prsL L n).length) : (prsL L n)[i] < n ∧ L (prsL L n)[i] ≠ 0 := prsL_mem.1 (List.getElem_mem h)
def xsS (L : Nat → Nat) (n : Nat) : List (El 8) := (prsL L n).map en8
theorem xsS_len (L : Nat → Nat) (n : Nat) : (xsS L n).length = (prsL L n).length := List.length_map ..
theorem xsS_nth {L : Nat → Nat} {n i : Nat} (h : i < (prsL L n).length) : nth (xsS L n) i = en8 (prsL L n)[i] := by
  rw [nth_get (by rw [xsS_len]; exact h)]
  exact List.getElem_map ..
theorem xsS_dist {L : Nat → Nat} {n : Nat} (hn : n ≤ 256) : ∀ a b, a < (prsL L n).length → b < (prsL L n).length → nth (xsS L n) a = nth (xsS L n) b → a = b := fun a b ha hb e => by
  rw [xsS_nth ha, xsS_nth hb] at e
  have e := en8_inj (by have := (prsL_get ha).1; omega) (by have := (prsL_get hb).1; omega) e
  have hp := prsL_pw L n
  rcases Nat.lt_trichotomy a b with h | h | h
  · have := List.pairwise_iff_getElem.1 hp a b ha hb h; omega
  · exact h
  · have := List.pairwise_iff_getElem.1 hp b a hb ha h; omega
/-- One column's values, weighted. -/
def ysS (f : Int) (k : Nat) (L : Nat → Nat) (n : Nat) (R : Nat → List (El 8)) (t : Nat) : List (El 8) := (prsL L n).map fun s => wt f k s * nth (R s) t
theorem ysS_len (f : Int) (k : Nat) (L : Nat → Nat) (n : Nat) (R : Nat → List (El 8)) (t : Nat) : (ysS f k L n R t).length = (prsL L n).length := List.length_map ..
theorem ysS_nth {f : Int} {k : Nat} {L : Nat → Nat} {n : Nat} {R : Nat → List (El 8)} {t i : Nat} (h : i < (prsL L n).length) : nth (ysS f k L n R t) i = wt f k (prsL L n)[i] * nth (R (prsL L n)[i]) t := by
  rw [nth_get (by rw [ysS_len]; exact h)]
  exact List.getElem_map ..
def offS (f : Int) (k : Nat) (L : Nat → Nat) (n : Nat) (R : Nat → List (El 8)) (t : Nat) (g : List (El 8)) : List Nat := offs g (nth (xsS L n)) (nth (ysS f k L n R t)) (prsL L n).length
/-- A short polynomial near column t. -/
def nearS (f : Int) (k : Nat) (L : Nat → Nat) (n : Nat) (R : Nat → List (El 8)) (t : Nat) (g : List (El 8)) : Prop := tr g = g ∧ g.length ≤ k ∧ (offS f k L n R t g).length ≤ ((prsL L n).length - k) / 2
theorem nearS_uniq {f : Int} {k : Nat} {L : Nat → Nat} {n : Nat} {R : Nat → List (El 8)} {t : Nat} {g g' : List (El 8)} (hn : n ≤ 256) (hk : k ≤ (prsL L n).length) (h : nearS f k L n R t g) (h' : nearS f k L n R t g') : g = g' :=
  near_uniq (X := nth (xsS L n)) (Y := nth (ysS f k L n R t)) (N := (prsL L n).length) (xsS_dist hn) hk h.1 h'.1 h.2.1 h'.2.1 (by have h1 := h.2.2; have h2 := h'.2.2; unfold offS at h1 h2; omega)
/-- The byte of shard s by the polynomial g. -/
def valS (f : Int) (k : Nat) (g : List (El 8)) (s : Nat) : El 8 := evl g (en8 s) * (wt f k s).inv
/-- What Partial's leave means. -/
structure MOk (f k m : Int) (L : Nat → Nat) (n len : Nat) : Prop where
  hf : f = 0 ∨ f = 1
  hk : 1 ≤ k
  hm : 1 ≤ m
  km : k + m ≤ 256
  hn : (n : Int) = k + m
  hlen : 1 ≤ len
  hL : ∀ j, j < n → L j = 0 ∨ L j = len
  hz : ((zis L n).length : Int) ≤ m
theorem prt_ok {f k m : Int} {L : Nat → Nat} {n len : Nat} {ev : Bool} (hf : f = 0 ∨ f = 1) (hL : cnt f k m n = 0 → Lns L n len ev) (h : (prt f k m n (zis L n).length len ev).2 = 0) : MOk f k m L n len ∧ (prt f k m n (zis L n).length len ev).1 = (len : Int) ∧ cnt f k m n = 0 := by
  unfold prt at h ⊢
  by_cases h1 : cnt f k m n ≠ 0
  · rw [if_pos h1] at h; exact absurd h h1
  rw [if_neg h1] at h ⊢
  have h1 : cnt f k m n = 0 := Decidable.not_not.1 h1
  have hL := hL h1
  by_cases h2 : len = 0
  · rw [if_pos h2] at h; exact absurd h (by decide)
  rw [if_neg h2] at h ⊢
  by_cases h3 : ev = false
  · rw [if_pos h3] at h; exact absurd h (by decide)
  rw [if_neg h3] at h ⊢
  by_cases h4 : oddB f len = true
  · rw [if_pos h4] at h; exact absurd h (by decide)
  rw [if_neg h4] at h ⊢
  by_cases h5 : m < ((zis L n).length : Int)
  · rw [if_pos h5] at h; exact absurd h (by decide)
  rw [if_neg h5]
  have hc := h1
  unfold cnt at hc
  have hp : prm f k m = 0 := by
    split at hc
    · rename_i h9; exact absurd hc h9
    · rename_i h9; exact Decidable.not_not.1 h9
  obtain ⟨k1, -, m1, -, hn⟩ := cnt_ok h1
  refine ⟨⟨hf, k1, m1, ?_, hn, by omega, hL.e.1 (by cases ev <;> simp_all), by omega⟩, rfl, h1⟩
  unfold prm at hp
  by_cases p1 : k < 1 ∨ m < 1 ∨ 65536 < k ∨ 65536 < m
  · omega
  by_cases p2 : f ≠ 2 ∧ 256 < k + m
  · rw [if_neg (by omega), if_neg p1, if_pos p2] at hp; exact absurd hp (by decide)
  · omega
end Go.Proofs.Ytbaljbadlfopgaa.Fw

set_option linter.unusedVariables false
set_option linter.unusedSimpArgs false
set_option maxRecDepth 100000
set_option maxHeartbeats 1000000
namespace Go.Proofs.Ytbaljbadlfopgaa.Fw
open Go Go.Fw Go.Proofs
attribute [local irreducible] stepI

end Go.Proofs.Ytbaljbadlfopgaa.Fw
namespace Go.Proofs.Ytbaljbadlfopgaa.Fw
open Go Go.Fw
def wer (f k m : Int) (L : Nat → Nat) (n len : Nat) (ev : Bool) : Int := if f = 0 ∨ f = 1 then (prt f k m n (zis L n).length len ev).2 else 2
def misL (L : Nat → Nat) (n : Nat) : List Nat := (List.range n).filter fun j => decide (L j = 0)
theorem misL_mem {L : Nat → Nat} {n j : Nat} : j ∈ misL L n ↔ j < n ∧ L j = 0 := by
  unfold misL
  rw [List.mem_filter, List.mem_range]
  simp
/-- No short polynomial is near column t. -/
def farS (f : Int) (k : Nat) (L : Nat → Nat) (n : Nat) (R : Nat → List (El 8)) (t : Nat) : Prop := ∀ g, tr g = g → g.length ≤ k → ((prsL L n).length - k) / 2 < (offS f k L n R t g).length
/-- The columns that are done. -/
def Ent (B : Nat) (w : World) (f : Int) (k : Nat) (L : Nat → Nat) (n : Nat) (R : Nat → List (El 8)) (CL : List Hd) (G : Nat → List (El 8)) (N : Nat) : Prop :=
  ∀ t, t < N → nearS f k L n R t (G t) ∧ Ow B w (Hj CL (t * 2)) ((prsL L n).map (valS f k (G t))) ∧ Ow B w (Hj CL (t * 2 + 1)) ((misL L n).map (valS f k (G t)))
section
variable {B : Nat} {w w' : World} {f : Int} {k : Nat} {L : Nat → Nat} {n : Nat} {R : Nat → List (El 8)} {CL : List Hd} {G : Nat → List (El 8)} {N : Nat}
theorem Ent.up (h : Ent B w f k L n R CL G N) (hB : RowKit.Below w.heap.size w w') : Ent B w' f k L n R CL G N := fun t ht => ⟨(h t ht).1, (h t ht).2.1.up hB, (h t ht).2.2.up hB⟩
theorem Ent.kp {b : Nat} (h : Ent B w f k L n R CL G N) (hk : Kp w b w') (hb : b < B) : Ent B w' f k L n R CL G N := fun t ht => by
  obtain ⟨h1, h2, h3⟩ := h t ht
  exact ⟨h1, hk.ow h2 fun c hc => by have := (h2.blk c hc).1; omega, hk.ow h3 fun c hc => by have := (h3.blk c hc).1; omega⟩
theorem Ent.mono {B' : Nat} (h : Ent B w f k L n R CL G N) (hB : B' ≤ B) : Ent B' w f k L n R CL G N := fun t ht => ⟨(h t ht).1, (h t ht).2.1.mono hB, (h t ht).2.2.mono hB⟩
theorem Ent.push {x y : Hd} {g : List (El 8)} (h : Ent B w f k L n R CL G N) (hl : N * 2 + 1 < CL.length) (hn : nearS f k L n R N g) (hx : Ow B w (Cell.v x) ((prsL L n).map (valS f k g))) (hy : Ow B w (Cell.v y) ((misL L n).map (valS f k g))) :
    Ent B w f k L n R ((CL.set (N * 2) x).set (N * 2 + 1) y) (fun t => if t = N then g else G t) (N + 1) := fun t ht => by
  have e1 : ∀ i, Hj ((CL.set (N * 2) x).set (N * 2 + 1) y) i = if i = N * 2 + 1 then Cell.v y else if i = N * 2 then Cell.v x else Hj CL i := fun i => by
    rw [Hj_set (by rw [List.length_set]; exact hl), Hj_set (by omega)]
  rw [e1, e1]
  by_cases e : t = N
  · subst e
    have eg : (if t = t then g else G t) = g := if_pos rfl
    rw [if_neg (show ¬ t * 2 = t * 2 + 1 by omega), if_pos rfl, if_pos rfl]
    simp only [eg]
    exact ⟨hn, hx, hy⟩
  · have eg : (if t = N then g else G t) = G t := if_neg e
    rw [if_neg (show ¬ t * 2 = N * 2 + 1 by omega), if_neg (show ¬ t * 2 = N * 2 by omega), if_neg (show ¬ t * 2 + 1 = N * 2 + 1 by omega), if_neg (show ¬ t * 2 + 1 = N * 2 by omega)]
    simp only [eg]
    exact h t (by omega)
end
theorem lns_ex (L : Nat → Nat) (n : Nat) : ∃ len ev, Lns L n len ev := by
  by_cases hz : ∀ j, j < n → L j = 0
  · exact ⟨0, true, ⟨⟨fun _ => hz, fun _ => rfl⟩, ⟨fun _ j hj => Or.inl (hz j hj), fun _ => rfl⟩, fun h => absurd rfl h⟩⟩
  · obtain ⟨j, hj⟩ := Classical.not_forall.1 hz
    obtain ⟨hj, hne⟩ := Classical.not_imp.1 hj
    by_cases he : ∀ i, i < n → L i = 0 ∨ L i = L j
    · exact ⟨L j, true, ⟨⟨fun e => absurd e hne, fun e => absurd (e j hj) hne⟩, ⟨fun _ => he, fun _ => rfl⟩, fun _ => ⟨j, hj, rfl⟩⟩⟩
    · exact ⟨L j, false, ⟨⟨fun e => absurd e hne, fun e => absurd (e j hj) hne⟩, ⟨(fun h => by cases h), fun e => absurd e he⟩, fun _ => ⟨j, hj, rfl⟩⟩⟩
set_option maxHeartbeats 8000000 in
theorem mend_work_spec (w : World) (f k m : Int) (s : Value) (hs : List Hd) (R : Nat → List (El 8)) (h : Sl w s hs) (hr : ∀ j (hj : j < hs.length), Sl w (Cell.v hs[j]) (R j)) (hlb : ∀ j, hln hs j ≤ 1099511627776) :
    CallV Try.prog 60 [.int .i64 f, .int .i64 k, .int .i64 m, s] w fun v w' => RowKit.Below w.heap.size w w' ∧ ∃ (len : Nat) (ev : Bool), (cnt f k m hs.length = 0 → Lns (hln hs) hs.length len ev) ∧
      ((wer f k m (hln hs) hs.length len ev ≠ 0 ∧ v = .tuple #[.slice none 0 0, .slice none 0 0, .slice none 0 0, .int .i64 (wer f k m (hln hs) hs.length len ev)]) ∨
       (wer f k m (hln hs) hs.length len ev = 0 ∧ MOk f k m (hln hs) hs.length len ∧
         ((v = .tuple #[.slice none 0 0, .slice none 0 0, .slice none 0 0, .int .i64 190] ∧ ∃ t, t < len ∧ farS f k.toNat (hln hs) hs.length R t) ∨
          (∃ (bc : Nat) (sm sw : Value) (CL : List Hd) (G : Nat → List (El 8)) (bo : Nat → Bool), v = .tuple #[.slice (some ⟨bc, 0, none⟩) len len, sm, sw, .int .i64 0] ∧ w.heap.size ≤ bc ∧ Row w' bc (CL.map Cell.v) ∧ CL.length = len * 2 ∧ Ent w.heap.size w' f k.toNat (hln hs) hs.length R CL G len ∧ Ow w.heap.size w' sm (zis (hln hs) hs.length) ∧
            (∀ i, bo i = true ↔ ∃ t, t < len ∧ i ∈ offS f k.toNat (hln hs) hs.length R t (G t)) ∧ Ow w.heap.size w' sw (((List.range (prsL (hln hs) hs.length).length).filter bo).map fun i => (((prsL (hln hs) hs.length).getD i 0 : Nat) : Int)))))) := by
  by_cases hf : f = 0 ∨ f = 1
  rotate_left
  · refine (mend_work_family w f k m s (fun e => hf (Or.inl e)) (fun e => hf (Or.inr e))).mono ?_
    rintro _ w1 ⟨rfl, rfl⟩
    obtain ⟨len, ev, hL⟩ := lns_ex (hln hs) hs.length
    have : wer f k m (hln hs) hs.length len ev = 2 := by unfold wer; rw [if_neg hf]
    exact ⟨RowKit.Below.refl _ _, len, ev, fun _ => hL, Or.inl ⟨by rw [this]; decide, by rw [this]⟩⟩
  refine run_mend_work (by simp) ?_
  unfold c_mend_work
  rw [lZ40]
  refine WP_cut (fun t w' => w' = w ∧ t 0 = .int .i64 f ∧ t 1 = .int .i64 k ∧ t 2 = .int .i64 m ∧ t 3 = s ∧ t 10 = .slice none 0 0) (by simp only [WS, ↓reduceIte, Nat.reduceEqDiff, reduceCtorEq]) fun t w1 hR => ?_
  obtain ⟨rfl, t0, t1, t2, t3, t10⟩ := hR
  rw [lZ1, lZ40]
  refine WP_cut (fun t w' => w' = w1 ∧ t 0 = .int .i64 f ∧ t 1 = .int .i64 k ∧ t 2 = .int .i64 m ∧ t 3 = s ∧ t 10 = .slice none 0 0) ?_ fun t w1 hR => ?_
  · rcases hf with rfl | rfl
    · simp (maxSteps := 1000000) (disch := omega) only [WS, ↓reduceIte, Nat.reduceEqDiff, reduceCtorEq, AS, t0, t1, t2, t3, t10]
    · simp (maxSteps := 1000000) (disch := omega) only [WS, ↓reduceIte, Nat.reduceEqDiff, reduceCtorEq, AS, t0, t1, t2, t3, t10]
  clear t0 t1 t2 t3 t10
  obtain ⟨rfl, t0, t1, t2, t3, t10⟩ := hR
  rw [lZ1]
  simp (maxSteps := 1000000) (disch := omega) only [WS, ↓reduceIte, Nat.reduceEqDiff, reduceCtorEq, AS, t0, t1, t2, t3]
  refine X_call0 ((shape_Partial_spec w1 f k m s hs h).mono ?_)
  rintro _ w2 ⟨B, len, ev, z, hL, rfl, oz⟩
  have hwe : wer f k m (hln hs) hs.length len ev = (prt f k m hs.length (zis (hln hs) hs.length).length len ev).2 := by unfold wer; rw [if_pos hf]
  by_cases hpe : (prt f k m hs.length (zis (hln hs) hs.length).length len ev).2 = 0
  rotate_left
  · simp (maxSteps := 1000000) (disch := omega) only [WS, ↓reduceIte, Nat.reduceEqDiff, reduceCtorEq, AS, t0, t1, t2, t3, decide_eq_true hpe]
    exact ⟨B, len, ev, hL, Or.inl ⟨by rw [hwe]; exact hpe, by rw [hwe]⟩⟩
  obtain ⟨hM, hp1, hcnt⟩ := prt_ok hf hL hpe
  rw [if_pos hpe] at oz
  rw [hpe, hp1]
  have hk := hM.hk
  have hm := hM.hm
  have hkm := hM.km
  have hn := hM.hn
  have hlen := hM.hlen
  have hz := hM.hz
  obtain ⟨K, rfl⟩ : ∃ K : Nat, k = (K : Int) := ⟨k.toNat, by omega⟩
  obtain ⟨M, rfl⟩ : ∃ M : Nat, m = (M : Int) := ⟨m.toNat, by omega⟩
  have hnp := prsL_len (hln hs) hs.length
  obtain ⟨jl, hjl, hjl2⟩ := (hL hcnt).m (by omega)
  have hlb2 : len ≤ 1099511627776 := by rw [← hjl2]; exact hlb jl
  rw [Int.toNat_natCast]
  have h := h.up B
  have hr := fun j hj => (hr j hj).up B
  simp (maxSteps := 1000000) (disch := omega) only [WS, ↓reduceIte, Nat.reduceEqDiff, reduceCtorEq, AS, t0, t1, t2, t3, show decide ((0 : Int) ≠ 0) = false from rfl, h.Xlen]
  refine loop_of (fun t w' => t 0 = .int .i64 f ∧ t 1 = .int .i64 (K : Int) ∧ t 2 = .int .i64 (M : Int) ∧ t 3 = s ∧ t 9 = z ∧ t 10 = .slice none 0 0 ∧ t 12 = .int .i64 (len : Int) ∧ t 55 = s ∧ t 56 = .int .i64 (hs.length : Int) ∧ RowKit.Below w2.heap.size w2 w' ∧ ∃ (i : Nat) (sp sx : Value), t 57 = .int .i64 (i : Int) ∧ i ≤ hs.length ∧ t 13 = sp ∧ t 14 = sx ∧ Ow w2.heap.size w' sp ((prsL (hln hs) i).map fun (j : Nat) => (j : Int)) ∧ Ow w2.heap.size w' sx (xsS (hln hs) i) ∧ ∀ c, Fw.blk sp = some c → Fw.blk sx ≠ some c) (fun t _ => hs.length - (toI (t 57)).toNat)
    ⟨by simp only [WS, ↓reduceIte, Nat.reduceEqDiff, reduceCtorEq]; exact t0, by simp only [WS, ↓reduceIte, Nat.reduceEqDiff, reduceCtorEq]; exact t1, by simp only [WS, ↓reduceIte, Nat.reduceEqDiff, reduceCtorEq]; exact t2, by simp only [WS, ↓reduceIte, Nat.reduceEqDiff, reduceCtorEq]; exact t3, by simp only [WS, ↓reduceIte, Nat.reduceEqDiff, reduceCtorEq], by simp only [WS, ↓reduceIte, Nat.reduceEqDiff, reduceCtorEq]; exact t10, by simp only [WS, ↓reduceIte, Nat.reduceEqDiff, reduceCtorEq], by simp only [WS, ↓reduceIte, Nat.reduceEqDiff, reduceCtorEq], by simp only [WS, ↓reduceIte, Nat.reduceEqDiff, reduceCtorEq], RowKit.Below.refl _ _, 0, .slice none 0 0, .slice none 0 0, by simp only [WS, ↓reduceIte, Nat.reduceEqDiff, reduceCtorEq]; rfl, by omega, by simp only [WS, ↓reduceIte, Nat.reduceEqDiff, reduceCtorEq], by simp only [WS, ↓reduceIte, Nat.reduceEqDiff, reduceCtorEq], Ow.nil _ _, Ow.nil _ _, fun c hc => by cases hc⟩ ?_
  clear t0 t1 t2 t3 t10
  rintro t w3 ⟨t0, t1, t2, t3, t9, t10, t12, t55, t56, C, i, sp, sx, t57, hi, t13, t14, op, ox, hsep⟩
  by_cases hil : i < hs.length
  · have h' := h.up C
    have hx := hln_get hs hil
    have hsu := prsL_succ (hln hs) i
    have hpl : ((prsL (hln hs) i).map fun (j : Nat) => (j : Int)).length ≤ i := by
      rw [List.length_map]
      have := prsL_len (hln hs) i
      omega
    have hxl : (xsS (hln hs) i).length ≤ i := by
      rw [xsS_len]
      have := prsL_len (hln hs) i
      omega
    simp (maxSteps := 1000000) (disch := omega) only [WS, ↓reduceIte, Nat.reduceEqDiff, reduceCtorEq, AS, t0, t1, t2, t3, t9, t10, t12, t55, t56, t57, t13, t14, h'.Xix hil, h'.Xld hil, cell_hd, X_lenS]
    by_cases h0 : hln hs i = 0
    · have h0' : hs[i].n = 0 := by rw [← hx]; exact h0
      rw [if_pos h0] at hsu
      rw [h0']
      simp (maxSteps := 1000000) (disch := omega) only [WS, ↓reduceIte, Nat.reduceEqDiff, reduceCtorEq, AS, show decide (((0 : Nat) : Int) > 0) = false from rfl, t0, t1, t2, t3, t9, t10, t12, t55, t56, t57, t13, t14]
      exact ⟨⟨C, i + 1, sp, sx, rfl, by omega, rfl, rfl, by rw [hsu]; exact op, by unfold xsS; rw [hsu]; exact ox, hsep⟩, by omega⟩
    · have h0' : hs[i].n ≠ 0 := by rw [← hx]; exact h0
      rw [if_neg h0] at hsu
      have u1 : IntKind.u8.wrap (i : Int) = ((en8 i).v.toNat : Int) := by rw [wrap_u8 _ (by omega), en8_v (by omega)]
      simp (maxSteps := 1000000) (disch := omega) only [WS, ↓reduceIte, Nat.reduceEqDiff, reduceCtorEq, AS, t0, t1, t2, t3, t9, t10, t12, t55, t56, t57, t13, t14]
      refine X_bsl (zs := [(i : Int)]) (by rfl) (by rfl) fun e0 w4 oe hB => ?_
      have C := C.trans (hB.mono C.size)
      have hsz := hB.size
      have op := op.up hB
      have ox := ox.up hB
      clear hB
      simp (maxSteps := 1000000) (disch := omega) only [WS, ↓reduceIte, Nat.reduceEqDiff, reduceCtorEq, AS, t0, t1, t2, t3, t9, t10, t12, t55, t56, t57, t13, t14]
      refine Ow.Xapp op oe.sl C.size (by simp only [List.length_singleton, maxBytes]; omega) (by simp only [List.length_singleton]; omega) fun sp2 w5 op2 hg hn2 => ?_
      have C := Below.app C C.size hg fun b hb => (op.blk b hb).1
      have hsep2 : ∀ c, Fw.blk sp2 = some c → Fw.blk sx ≠ some c := fun c hc e => by
        rcases hn2 with h1 | h1
        · exact hsep c (by rw [← h1]; exact hc) e
        · have := h1 c hc
          have := (ox.blk c e).2
          omega
      have ox := ox.gr' hg fun c hc => hsep c hc
      simp (maxSteps := 1000000) (disch := omega) only [WS, ↓reduceIte, Nat.reduceEqDiff, reduceCtorEq, AS, t0, t1, t2, t3, t9, t10, t12, t55, t56, t57, t14, u1]
      refine X_bsl (zs := [en8 i]) (by rfl) (by rfl) fun e1 w6 oe hB => ?_
      have C := C.trans (hB.mono C.size)
      have op2 := op2.up hB
      have ox := ox.up hB
      clear hB
      simp (maxSteps := 1000000) (disch := omega) only [WS, ↓reduceIte, Nat.reduceEqDiff, reduceCtorEq, AS, t0, t1, t2, t3, t9, t10, t12, t55, t56, t57, t14]
      refine Ow.Xapp ox oe.sl C.size (by simp only [List.length_singleton, maxBytes]; omega) (by simp only [List.length_singleton]; omega) fun sx2 w7 ox2 hg hn2 => ?_
      have C := Below.app C C.size hg fun b hb => (ox.blk b hb).1
      have hsep3 : ∀ c, Fw.blk sp2 = some c → Fw.blk sx2 ≠ some c := fun c hc e => by
        rcases hn2 with h1 | h1
        · exact hsep2 c hc (by rw [← h1]; exact e)
        · have := h1 c e
          have := (op2.blk c hc).2
          omega
      have op2 := op2.gr' hg fun c hc e => hsep2 c e hc
      simp (maxSteps := 1000000) (disch := omega) only [WS, ↓reduceIte, Nat.reduceEqDiff, reduceCtorEq, AS, t0, t1, t2, t3, t9, t10, t12, t55, t56, t57]
      exact ⟨⟨C, i + 1, sp2, sx2, rfl, by omega, rfl, rfl, by rw [hsu, List.map_append]; exact op2, by unfold xsS; rw [hsu, List.map_append]; exact ox2, hsep3⟩, by omega⟩
  obtain rfl : i = hs.length := by omega
  clear hi hil hsep
  have B := B.trans (C.mono B.size)
  have op := op.sl
  have ox := ox.sl
  have eKM : IntKind.i64.wrap ((K : Int) + (M : Int)) = ((hs.length : Nat) : Int) := by rw [wrap_id (by omega) (by omega)]; omega
  have hopl : ((prsL (hln hs) hs.length).map fun (j : Nat) => (j : Int)).length = (prsL (hln hs) hs.length).length := List.length_map ..
  have h := h.up C
  have oz := oz.up C
  have hr := fun j hj => (hr j hj).up C
  clear C
  simp (maxSteps := 1000000) (disch := omega) only [WS, ↓reduceIte, Nat.reduceEqDiff, reduceCtorEq, AS, t0, t1, t2, t3, t9, t10, t12, t55, t56, t57, t13, t14, eKM]
  refine X_call0 ((mend_weights_spec w3 f K hs.length (by omega) (by omega)).mono ?_)
  rintro sW w4 ⟨hB, oW⟩
  have oW := oW.sl
  have hr := fun j hj => (hr j hj).up hB
  have h := h.up hB
  have oz := oz.up hB
  have op := op.up hB
  have ox := ox.up hB
  have B := B.trans (hB.mono B.size)
  clear hB
  simp (maxSteps := 1000000) (disch := omega) only [WS, ↓reduceIte, Nat.reduceEqDiff, reduceCtorEq, AS, t0, t1, t2, t3, t9, t10, t12, t13, t14]
  refine X_alloc fun b17 w5 r17 hb17 hB => ?_
  have hlt17 := row_lt r17
  have hscW : scal sW = true := by obtain ⟨_, _, rfl, -⟩ := oW.sh; rfl
  simp (maxSteps := 1000000) (disch := omega) only [WS, ↓reduceIte, Nat.reduceEqDiff, reduceCtorEq, AS]
  refine Row.Xst (o := 0) r17 (by simp) hscW fun w6 r17 hg => ?_
  have r17 : Row w6 b17 [sW] := r17
  have hB := Below.row hB hb17 hg
  clear hg
  have hr := fun j hj => (hr j hj).up hB
  have h := h.up hB
  have oz := oz.up hB
  have op := op.up hB
  have ox := ox.up hB
  have oW := oW.up hB
  have B := B.trans (hB.mono B.size)
  clear hB
  simp (maxSteps := 1000000) (disch := omega) only [WS, ↓reduceIte, Nat.reduceEqDiff, reduceCtorEq, AS, t0, t1, t2, t3, t9, t10, t12, t13, t14]
  refine X_call0 ((mend_newDecoder_spec w6 K sx (xsS (hln hs) hs.length) ox (by rw [xsS_len]; omega)).mono ?_)
  rintro pd w7 ⟨hD, hB⟩
  have hr := fun j hj => (hr j hj).up hB
  have h := h.up hB
  have oz := oz.up hB
  have op := op.up hB
  have ox := ox.up hB
  have oW := oW.up hB
  have r17 := r17.up hB
  have B := B.trans (hB.mono B.size)
  clear hB
  simp (maxSteps := 1000000) (disch := omega) only [WS, ↓reduceIte, Nat.reduceEqDiff, reduceCtorEq, AS, t0, t1, t2, t3, t9, t10, t12, t13, t14]
  refine X_alloc fun b18 w8 r18 hb18 hB => ?_
  have hscD : scal pd = true := by obtain ⟨_, _, _, _, _, rfl, -⟩ := hD; rfl
  simp (maxSteps := 1000000) (disch := omega) only [WS, ↓reduceIte, Nat.reduceEqDiff, reduceCtorEq, AS]
  refine Row.Xst (o := 0) r18 (by simp) hscD fun w9 r18 hg => ?_
  have r18 : Row w9 b18 [pd] := r18
  have hB := Below.row hB hb18 hg
  clear hg
  have hr := fun j hj => (hr j hj).up hB
  have hD := hD.up hB
  have h := h.up hB
  have oz := oz.up hB
  have op := op.up hB
  have ox := ox.up hB
  have oW := oW.up hB
  have r17 := r17.up hB
  have B := B.trans (hB.mono B.size)
  clear hB
  simp (maxSteps := 1000000) (disch := omega) only [WS, ↓reduceIte, Nat.reduceEqDiff, reduceCtorEq, AS, t0, t1, t2, t3, t9, t10, t12, t13, t14, op.Xlen, hopl]
  refine X_mks (x := false) (n := (prsL (hln hs) hs.length).length) (by simp only [maxBytes]; omega) (by omega) fun sf w10 of hB10 => ?_
  simp (maxSteps := 1000000) (disch := omega) only [WS, ↓reduceIte, Nat.reduceEqDiff, reduceCtorEq, AS, t0, t1, t2, t3, t9, t10, t12, t13, t14]
  refine X_mksW (zs := [.slice none 0 0, .slice none 0 0]) (n := len) (by simp only [maxBytes]; omega) (by omega) fun bc w11 rc hbc hB11 => ?_
  have rc : Row w11 bc ((List.replicate (len * 2) hdn).map Cell.v) := by
    rw [List.map_replicate]
    rw [repL_two] at rc
    exact rc
  have D11 := hB10.trans (hB11.mono hB10.size)
  have z10 := hB10.size
  have z11 := hB11.size
  have hbc2 := row_lt rc
  have hnp1 : 0 < (prsL (hln hs) hs.length).length := by omega
  obtain ⟨bsf, hbsf, hbsf0⟩ := of.sl.blk_lt (ne_nil_of (i := 0) (by rw [List.length_replicate]; exact hnp1))
  have hbsf1 : w9.heap.size ≤ bsf := (of.blk bsf hbsf).1
  have hbsf2 : bsf < w10.heap.size := hbsf0
  have of := of.up hB11
  clear hB10 hB11
  simp (maxSteps := 1000000) (disch := omega) only [WS, ↓reduceIte, Nat.reduceEqDiff, reduceCtorEq, AS, t0, t1, t2, t3, t9, t10, t12, t13, t14]
  refine loop_of (fun t w' => t 3 = s ∧ t 8 = .slice (some ⟨bc, 0, none⟩) len len ∧ t 9 = z ∧ t 10 = .slice none 0 0 ∧ t 13 = sp ∧ t 17 = .pointer (some ⟨b17, 0, none⟩) ∧ t 18 = .pointer (some ⟨b18, 0, none⟩) ∧ t 19 = sf ∧ t 90 = .int .i64 (len : Int) ∧ RowKit.Below w9.heap.size w9 w' ∧ w11.heap.size ≤ w'.heap.size ∧ ∃ (i : Nat) (BL : List Bool) (CL : List Hd) (G : Nat → List (El 8)), t 91 = .int .i64 (i : Int) ∧ i ≤ len ∧ Ow w9.heap.size w' sf BL ∧ BL.length = (prsL (hln hs) hs.length).length ∧ (∀ j, BL.getD j false = true ↔ ∃ x, x < i ∧ j ∈ offS f K (hln hs) hs.length R x (G x)) ∧ Row w' bc (CL.map Cell.v) ∧ CL.length = len * 2 ∧ (∀ x, i * 2 ≤ x → Hj CL x = .slice none 0 0) ∧ Ent w11.heap.size w' f K (hln hs) hs.length R CL G i) (fun t _ => len - (toI (t 91)).toNat)
    ⟨by simp only [WS, ↓reduceIte, Nat.reduceEqDiff, reduceCtorEq]; exact t3, by simp only [WS, ↓reduceIte, Nat.reduceEqDiff, reduceCtorEq], by simp only [WS, ↓reduceIte, Nat.reduceEqDiff, reduceCtorEq]; exact t9, by simp only [WS, ↓reduceIte, Nat.reduceEqDiff, reduceCtorEq]; exact t10, by simp only [WS, ↓reduceIte, Nat.reduceEqDiff, reduceCtorEq]; exact t13, by simp only [WS, ↓reduceIte, Nat.reduceEqDiff, reduceCtorEq], by simp only [WS, ↓reduceIte, Nat.reduceEqDiff, reduceCtorEq], by simp only [WS, ↓reduceIte, Nat.reduceEqDiff, reduceCtorEq], by simp only [WS, ↓reduceIte, Nat.reduceEqDiff, reduceCtorEq], D11, Nat.le_refl _, 0, _, _, fun _ => [], by simp only [WS, ↓reduceIte, Nat.reduceEqDiff, reduceCtorEq]; rfl, by omega, of, List.length_replicate .., fun j => ⟨fun e => ?_, fun ⟨x, hx, _⟩ => absurd hx (Nat.not_lt_zero _)⟩, rc, List.length_replicate .., fun x _ => ?_, fun t ht => absurd ht (Nat.not_lt_zero _)⟩ ?_
  · rw [List.getD_eq_getElem?_getD, List.getElem?_replicate] at e
    split at e <;> cases e
  · unfold Hj
    rw [List.getD_eq_getElem?_getD, List.getElem?_replicate]
    split <;> rfl
  clear t0 t1 t2 t3 t9 t10 t12 t13 t14 t55 t56 t57 rc of D11
  rintro t w12 ⟨t3, t8, t9, t10, t13, t17, t18, t19, t90, D, z12, i, BL, CL, G, t91, hi, of, lBL, hBL, rc, lCL, hCL, hE⟩
  by_cases hil : i < len
  rotate_left
  · have ei : len = i := by omega
    subst ei
    have op' := op.up D
    have oz' := oz.up D
    have B' := B.trans (D.mono B.size)
    have hw9 := B.size
    have hE := hE.mono (show w1.heap.size ≤ w11.heap.size by omega)
    clear hil hi hCL
    simp (maxSteps := 1000000) (disch := omega) only [WS, ↓reduceIte, Nat.reduceEqDiff, reduceCtorEq, AS, t3, t8, t9, t10, t13, t17, t18, t19, t90, t91, op'.Xlen, hopl]
    refine loop_of (fun t w' => t 8 = .slice (some ⟨bc, 0, none⟩) len len ∧ t 9 = z ∧ t 19 = sf ∧ t 182 = sp ∧ t 183 = .int .i64 ((prsL (hln hs) hs.length).length : Int) ∧ RowKit.Below w12.heap.size w12 w' ∧ ∃ (q : Nat) (sw : Value), t 184 = .int .i64 (q : Int) ∧ q ≤ (prsL (hln hs) hs.length).length ∧ t 10 = sw ∧ Ow w12.heap.size w' sw (((List.range q).filter fun j => BL.getD j false).map fun i => (((prsL (hln hs) hs.length).getD i 0 : Nat) : Int))) (fun t _ => (prsL (hln hs) hs.length).length - (toI (t 184)).toNat)
      ⟨by simp only [WS, ↓reduceIte, Nat.reduceEqDiff, reduceCtorEq]; exact t8, by simp only [WS, ↓reduceIte, Nat.reduceEqDiff, reduceCtorEq]; exact t9, by simp only [WS, ↓reduceIte, Nat.reduceEqDiff, reduceCtorEq]; exact t19, by simp only [WS, ↓reduceIte, Nat.reduceEqDiff, reduceCtorEq], by simp only [WS, ↓reduceIte, Nat.reduceEqDiff, reduceCtorEq], RowKit.Below.refl _ _, 0, .slice none 0 0, by simp only [WS, ↓reduceIte, Nat.reduceEqDiff, reduceCtorEq]; rfl, by omega, by simp only [WS, ↓reduceIte, Nat.reduceEqDiff, reduceCtorEq]; exact t10, Or.inl ⟨rfl, rfl⟩⟩ ?_
    clear t3 t8 t9 t10 t13 t17 t18 t19 t90 t91
    rintro t w13 ⟨t8, t9, t19, t182, t183, E, q, sw, t184, hq, t10, ow⟩
    by_cases hql : q < (prsL (hln hs) hs.length).length
    · have op' := op'.up E
      have of' := of.up E
      have iq : q < ((prsL (hln hs) hs.length).map fun (j : Nat) => (j : Int)).length := by omega
      have eq1 : ((prsL (hln hs) hs.length).map fun (j : Nat) => (j : Int))[q] = (((prsL (hln hs) hs.length).getD q 0 : Nat) : Int) := by rw [List.getElem_map, List.getD_eq_getElem?_getD, List.getElem?_eq_getElem hql]; rfl
      have iB : q < BL.length := by omega
      have eB : BL[q] = BL.getD q false := by rw [List.getD_eq_getElem?_getD, List.getElem?_eq_getElem iB]; rfl
      have hwl : (((List.range q).filter fun j => BL.getD j false).map fun i => (((prsL (hln hs) hs.length).getD i 0 : Nat) : Int)).length ≤ q := by
        rw [List.length_map]
        have := List.length_filter_le (fun j => BL.getD j false) (List.range q)
        rwa [List.length_range] at this
      have hbv : (Cell.v BL[q] : Value) = .bool (BL.getD q false) := by rw [eB]; rfl
      cases hb : BL.getD q false
      · rw [hb] at hbv
        simp (maxSteps := 1000000) (disch := omega) only [WS, ↓reduceIte, Nat.reduceEqDiff, reduceCtorEq, AS, t8, t9, t19, t182, t183, t184, t10, op'.Xix iq, op'.Xld iq, cell_int, eq1, of'.sl.Xix iB, of'.sl.Xld iB, hbv]
        refine ⟨⟨E, q + 1, sw, rfl, by omega, rfl, ?_⟩, by omega⟩
        rw [List.range_succ, List.filter_append]
        simp only [List.filter_cons, List.filter_nil, hb, Bool.false_eq_true, if_false, List.append_nil]
        exact ow
      · rw [hb] at hbv
        simp (maxSteps := 1000000) (disch := omega) only [WS, ↓reduceIte, Nat.reduceEqDiff, reduceCtorEq, AS, t8, t9, t19, t182, t183, t184, t10, op'.Xix iq, op'.Xld iq, cell_int, eq1, of'.sl.Xix iB, of'.sl.Xld iB, hbv]
        refine X_bsl (zs := [(((prsL (hln hs) hs.length).getD q 0 : Nat) : Int)]) (by rfl) (by rfl) fun e0 w14 oe hB => ?_
        have E := E.trans (hB.mono E.size)
        have ow := ow.up hB
        clear hB
        simp (maxSteps := 1000000) (disch := omega) only [WS, ↓reduceIte, Nat.reduceEqDiff, reduceCtorEq, AS, t8, t9, t19, t182, t183, t184, t10]
        refine Ow.Xapp ow oe.sl E.size (by simp only [List.length_singleton, maxBytes]; omega) (by simp only [List.length_singleton]; omega) fun e1 w15 ow2 hg _ => ?_
        have E := Below.app E E.size hg fun b hb => (ow.blk b hb).1
        simp (maxSteps := 1000000) (disch := omega) only [WS, ↓reduceIte, Nat.reduceEqDiff, reduceCtorEq, AS, t8, t9, t19, t182, t183, t184]
        refine ⟨⟨E, q + 1, e1, rfl, by omega, rfl, ?_⟩, by omega⟩
        rw [List.range_succ, List.filter_append, List.map_append]
        simp only [List.filter_cons, List.filter_nil, hb, if_true, List.map_cons, List.map_nil]
        exact ow2
    obtain rfl : q = (prsL (hln hs) hs.length).length := by omega
    have zE := E.size
    simp (maxSteps := 1000000) (disch := omega) only [WS, ↓reduceIte, Nat.reduceEqDiff, reduceCtorEq, AS, t8, t9, t19, t182, t183, t184, t10]
    exact ⟨B'.trans (E.mono B'.size), len, ev, hL, Or.inr ⟨by rw [hwe]; exact hpe, hM, Or.inr ⟨bc, z, sw, CL, G, fun j => BL.getD j false, rfl, by omega, rc.up E, lCL, hE.up E, oz'.up E, hBL, ow.mono B'.size⟩⟩⟩
  have op' := op.up D
  simp (maxSteps := 1000000) (disch := omega) only [WS, ↓reduceIte, Nat.reduceEqDiff, reduceCtorEq, AS, t3, t8, t9, t10, t13, t17, t18, t19, t90, t91, op'.Xlen, hopl]
  refine X_mks (x := (0 : El 8)) (n := (prsL (hln hs) hs.length).length) (by simp only [maxBytes]; omega) (by omega) fun sv w13 ov hB => ?_
  simp (maxSteps := 1000000) (disch := omega) only [WS, ↓reduceIte, Nat.reduceEqDiff, reduceCtorEq, AS, t3, t8, t9, t10, t13, t17, t18, t19, t90, t91, (op'.up hB).Xlen, hopl]
  refine loop_of (fun t w' => t 3 = s ∧ t 8 = .slice (some ⟨bc, 0, none⟩) len len ∧ t 9 = z ∧ t 10 = .slice none 0 0 ∧ t 13 = sp ∧ t 17 = .pointer (some ⟨b17, 0, none⟩) ∧ t 18 = .pointer (some ⟨b18, 0, none⟩) ∧ t 19 = sf ∧ t 90 = .int .i64 (len : Int) ∧ t 91 = .int .i64 (i : Int) ∧ t 20 = .int .i64 (i : Int) ∧ t 21 = sv ∧ t 97 = sp ∧ t 98 = .int .i64 ((prsL (hln hs) hs.length).length : Int) ∧ RowKit.Below w12.heap.size w12 w' ∧ ∃ (q : Nat) (YL : List (El 8)), t 99 = .int .i64 (q : Int) ∧ q ≤ (prsL (hln hs) hs.length).length ∧ Ow w12.heap.size w' sv YL ∧ YL.length = (prsL (hln hs) hs.length).length ∧ ∀ j, j < q → nth YL j = nth (ysS f K (hln hs) hs.length R i) j) (fun t _ => (prsL (hln hs) hs.length).length - (toI (t 99)).toNat)
    ⟨by simp only [WS, ↓reduceIte, Nat.reduceEqDiff, reduceCtorEq]; exact t3, by simp only [WS, ↓reduceIte, Nat.reduceEqDiff, reduceCtorEq]; exact t8, by simp only [WS, ↓reduceIte, Nat.reduceEqDiff, reduceCtorEq]; exact t9, by simp only [WS, ↓reduceIte, Nat.reduceEqDiff, reduceCtorEq]; exact t10, by simp only [WS, ↓reduceIte, Nat.reduceEqDiff, reduceCtorEq]; exact t13, by simp only [WS, ↓reduceIte, Nat.reduceEqDiff, reduceCtorEq]; exact t17, by simp only [WS, ↓reduceIte, Nat.reduceEqDiff, reduceCtorEq]; exact t18, by simp only [WS, ↓reduceIte, Nat.reduceEqDiff, reduceCtorEq]; exact t19, by simp only [WS, ↓reduceIte, Nat.reduceEqDiff, reduceCtorEq]; exact t90, by simp only [WS, ↓reduceIte, Nat.reduceEqDiff, reduceCtorEq]; exact t91, by simp only [WS, ↓reduceIte, Nat.reduceEqDiff, reduceCtorEq], by simp only [WS, ↓reduceIte, Nat.reduceEqDiff, reduceCtorEq], by simp only [WS, ↓reduceIte, Nat.reduceEqDiff, reduceCtorEq], by simp only [WS, ↓reduceIte, Nat.reduceEqDiff, reduceCtorEq], hB, 0, _, by simp only [WS, ↓reduceIte, Nat.reduceEqDiff, reduceCtorEq]; rfl, by omega, ov, List.length_replicate .., fun j hj => absurd hj (Nat.not_lt_zero _)⟩ ?_
  clear t3 t8 t9 t10 t13 t17 t18 t19 t90 t91 ov hB op'
  rintro t w14 ⟨t3, t8, t9, t10, t13, t17, t18, t19, t90, t91, t20, t21, t97, t98, E, q, YL, t99, hq, ov, lYL, hYL⟩
  by_cases hql : q < (prsL (hln hs) hs.length).length
  · obtain ⟨hp1, hp2⟩ := prsL_get hql
    obtain ⟨S, hS⟩ : ∃ S, S = (prsL (hln hs) hs.length)[q] := ⟨_, rfl⟩
    rw [← hS] at hp1 hp2
    have DE := D.trans (E.mono D.size)
    have op' := op.up DE
    have iq : q < ((prsL (hln hs) hs.length).map fun (j : Nat) => (j : Int)).length := by omega
    have eq1 : ((prsL (hln hs) hs.length).map fun (j : Nat) => (j : Int))[q] = (S : Int) := by rw [List.getElem_map, hS]
    simp (maxSteps := 1000000) (disch := omega) only [WS, ↓reduceIte, Nat.reduceEqDiff, reduceCtorEq, AS, t3, t8, t9, t10, t13, t17, t18, t19, t90, t91, t20, t21, t97, t98, t99, op'.Xix iq, op'.Xld iq, cell_int, eq1]
    refine WP_dops ?_
    have bd := bel_drew w14
    have E := E.trans (bd.mono E.size)
    have ov := ov.up bd
    clear bd DE op'
    have DE := D.trans (E.mono D.size)
    have h' := h.up DE
    have hr' := (hr S hp1).up DE
    have r17' := r17.up DE
    have oW' := oW.up DE
    have hRl : (R S).length = len := by
      obtain ⟨a, c, e, -⟩ := hr'.sh
      have hx := hln_get hs hp1
      have := hM.hL S hp1
      have e2 : hs[S].n = (R S).length := by injection e
      omega
    have iR : i < (R S).length := by omega
    have iW : S < ((List.range hs.length).map (wt f K)).length := by rw [List.length_map, List.length_range]; exact hp1
    have eW : ((List.range hs.length).map (wt f K))[S] = wt f K S := by rw [List.getElem_map, List.getElem_range]
    have iv : q < YL.length := by omega
    simp (maxSteps := 1000000) (disch := omega) only [ES, List.mem_cons, List.not_mem_nil, implies_true, forall_const, WS, ↓reduceIte, Nat.reduceEqDiff, reduceCtorEq, AS, t3, t8, t9, t10, t13, t17, t18, t19, t90, t91, t20, t21, t97, t98, t99, r17'.Eld (show 0 < _ by simp), oW'.Eix iW, oW'.Eld iW, h'.Eix hp1, h'.Eld hp1, hr'.Eix iR, hr'.Eld iR, cell_e8, eW]
    refine E_call0 ((gf8_Mul_spec w14.drew (wt f K S) (R S)[i]).mono ?_)
    rintro _ w15 ⟨rfl, rfl⟩
    simp (maxSteps := 1000000) (disch := omega) only [ES, List.mem_cons, List.not_mem_nil, implies_true, forall_const, WS, ↓reduceIte, Nat.reduceEqDiff, reduceCtorEq, AS, t3, t8, t9, t10, t13, t17, t18, t19, t90, t91, t20, t21, t97, t98, t99, ov.sl.Eix iv]
    refine Ow.Est ov iv (wt f K S * (R S)[i]) fun w16 ov2 hg => ?_
    have E := Below.app E E.size hg fun b hb => (ov.blk b hb).1
    simp (maxSteps := 1000000) (disch := omega) only [ES, List.mem_cons, List.not_mem_nil, implies_true, forall_const, WS, ↓reduceIte, Nat.reduceEqDiff, reduceCtorEq, AS, t3, t8, t9, t10, t13, t17, t18, t19, t90, t91, t20, t21, t97, t98, t99]
    refine ⟨⟨E, q + 1, _, rfl, by omega, ov2, by rw [List.length_set]; exact lYL, fun j hj => ?_⟩, by omega⟩
    rw [nth_set iv]
    split
    · rename_i e
      subst e
      rw [ysS_nth hql, ← hS, nth_get iR]
    · exact hYL j (by omega)
  obtain rfl : q = (prsL (hln hs) hs.length).length := by omega
  obtain rfl : YL = ysS f K (hln hs) hs.length R i := List.ext_getElem (by rw [lYL, ysS_len]) fun j a1 a2 => by
    have := hYL j (by omega)
    rw [nth_get a1, nth_get a2] at this
    exact this
  clear hYL hq hql
  have DE := D.trans (E.mono D.size)
  have r18' := r18.up DE
  have hD' := hD.up DE
  simp (maxSteps := 1000000) (disch := omega) only [WS, ↓reduceIte, Nat.reduceEqDiff, reduceCtorEq, AS, t3, t8, t9, t10, t13, t17, t18, t19, t90, t91, t20, t21, t97, t98, t99, r18'.Xld (show 0 < _ by simp)]
  refine X_call0 ((mend_decoder_near_spec w14 pd sv K (xsS (hln hs) hs.length) (ysS f K (hln hs) hs.length R i) hD' ov.sl (by omega) (by rw [xsS_len]; omega) (by rw [xsS_len]; omega) (by rw [ysS_len, xsS_len]) (by rw [xsS_len]; exact xsS_dist (by omega))).mono ?_)
  rw [xsS_len]
  rintro _ w15 ⟨hB, hres⟩
  have z14 := E.size
  have z15 := hB.size
  have E := E.trans (hB.mono E.size)
  clear hB r18' hD' DE ov
  rcases hres with ⟨sg, so, g, rfl, og, oo, tg, hgk, hon⟩ | ⟨sg, so, rfl, hsg, hfar⟩
  rotate_left
  · simp (maxSteps := 1000000) (disch := omega) only [WS, ↓reduceIte, Nat.reduceEqDiff, reduceCtorEq, AS, t3, t8, t9, t10, t13, t17, t18, t19, t90, t91, t20, t21, t97, t98, t99]
    refine X_alloc fun b24 w16 r24 hb24 hB => ?_
    simp (maxSteps := 1000000) (disch := omega) only [WS, ↓reduceIte, Nat.reduceEqDiff, reduceCtorEq, AS, t3, t8, t9, t10, t13, t17, t18, t19, t90, t91, t20, t21]
    refine Row.Xst (o := 0) r24 (by simp) hsg fun w17 r24 hg => ?_
    have hB := Below.row hB hb24 hg
    have E := E.trans (hB.mono E.size)
    simp (maxSteps := 1000000) (disch := omega) only [WS, ↓reduceIte, Nat.reduceEqDiff, reduceCtorEq, AS, t3, t8, t9, t10, t13, t17, t18, t19, t90, t91, t20, t21]
    exact ⟨B.trans ((D.trans (E.mono D.size)).mono B.size), len, ev, hL, Or.inr ⟨by rw [hwe]; exact hpe, hM, Or.inl ⟨i, hil, hfar⟩⟩⟩
  have hnr : nearS f K (hln hs) hs.length R i g := ⟨tg, hgk, hon⟩
  have hsg : scal sg = true := by obtain ⟨_, _, rfl, -⟩ := og.sl.sh; rfl
  simp (maxSteps := 1000000) (disch := omega) only [WS, ↓reduceIte, Nat.reduceEqDiff, reduceCtorEq, AS, t3, t8, t9, t10, t13, t17, t18, t19, t90, t91, t20, t21, t97, t98, t99]
  refine X_alloc fun b24 w16 r24 hb24 hB => ?_
  have hlt24 := row_lt r24
  simp (maxSteps := 1000000) (disch := omega) only [WS, ↓reduceIte, Nat.reduceEqDiff, reduceCtorEq, AS, t3, t8, t9, t10, t13, t17, t18, t19, t90, t91, t20, t21]
  refine Row.Xst (o := 0) r24 (by simp) hsg fun w17 r24 hg => ?_
  have r24 : Row w17 b24 [sg] := r24
  have hB := Below.row hB hb24 hg
  have E := E.trans (hB.mono E.size)
  have og := og.up hB
  have oo := oo.up hB
  have hb24' : w14.heap.size ≤ b24 := Nat.le_trans z15 hb24
  clear hB hg hsg
  obtain ⟨O, hO⟩ : ∃ O, O = offS f K (hln hs) hs.length R i g := ⟨_, rfl⟩
  have hoe : offs g (nth (xsS (hln hs) hs.length)) (nth (ysS f K (hln hs) hs.length R i)) (prsL (hln hs) hs.length).length = O := hO.symm
  rw [hoe] at oo hon
  have hOm : ∀ j, j ∈ O → j < (prsL (hln hs) hs.length).length := fun j hj => by rw [hO] at hj; exact (offs_mem.1 hj).1
  have hOl : (O.map fun (n : Nat) => (n : Int)).length = O.length := List.length_map ..
  simp (maxSteps := 1000000) (disch := omega) only [WS, ↓reduceIte, Nat.reduceEqDiff, reduceCtorEq, AS, t3, t8, t9, t10, t13, t17, t18, t19, t90, t91, t20, t21, oo.sl.Xlen, hOl]
  have D17 := D.trans (E.mono D.size)
  have of17 := of.up E
  have rc17 := rc.up E
  have hE17 := hE.up E
  have z17 := E.size
  clear of rc hE E
  refine loop_of (fun t w' => t 3 = s ∧ t 8 = .slice (some ⟨bc, 0, none⟩) len len ∧ t 9 = z ∧ t 10 = .slice none 0 0 ∧ t 13 = sp ∧ t 17 = .pointer (some ⟨b17, 0, none⟩) ∧ t 18 = .pointer (some ⟨b18, 0, none⟩) ∧ t 19 = sf ∧ t 90 = .int .i64 (len : Int) ∧ t 91 = .int .i64 (i : Int) ∧ t 20 = .int .i64 (i : Int) ∧ t 24 = .pointer (some ⟨b24, 0, none⟩) ∧ t 129 = so ∧ t 130 = .int .i64 (O.length : Int) ∧ RowKit.Below w9.heap.size w9 w' ∧ Kp w17 bsf w' ∧ ∃ (q : Nat) (BM : List Bool), t 131 = .int .i64 (q : Int) ∧ q ≤ O.length ∧ Ow w9.heap.size w' sf BM ∧ BM.length = (prsL (hln hs) hs.length).length ∧ ∀ j, BM.getD j false = true ↔ BL.getD j false = true ∨ j ∈ O.take q) (fun t _ => O.length - (toI (t 131)).toNat)
    ⟨by simp only [WS, ↓reduceIte, Nat.reduceEqDiff, reduceCtorEq]; exact t3, by simp only [WS, ↓reduceIte, Nat.reduceEqDiff, reduceCtorEq]; exact t8, by simp only [WS, ↓reduceIte, Nat.reduceEqDiff, reduceCtorEq]; exact t9, by simp only [WS, ↓reduceIte, Nat.reduceEqDiff, reduceCtorEq]; exact t10, by simp only [WS, ↓reduceIte, Nat.reduceEqDiff, reduceCtorEq]; exact t13, by simp only [WS, ↓reduceIte, Nat.reduceEqDiff, reduceCtorEq]; exact t17, by simp only [WS, ↓reduceIte, Nat.reduceEqDiff, reduceCtorEq]; exact t18, by simp only [WS, ↓reduceIte, Nat.reduceEqDiff, reduceCtorEq]; exact t19, by simp only [WS, ↓reduceIte, Nat.reduceEqDiff, reduceCtorEq]; exact t90, by simp only [WS, ↓reduceIte, Nat.reduceEqDiff, reduceCtorEq]; exact t91, by simp only [WS, ↓reduceIte, Nat.reduceEqDiff, reduceCtorEq]; exact t20, by simp only [WS, ↓reduceIte, Nat.reduceEqDiff, reduceCtorEq], by simp only [WS, ↓reduceIte, Nat.reduceEqDiff, reduceCtorEq], by rw [← hOl]; simp only [WS, ↓reduceIte, Nat.reduceEqDiff, reduceCtorEq], D17, Kp.refl _ _, 0, BL, by simp only [WS, ↓reduceIte, Nat.reduceEqDiff, reduceCtorEq]; rfl, by omega, of17, lBL, fun j => ⟨fun h => Or.inl h, fun h => h.elim id fun h => by cases h⟩⟩ ?_
  clear t3 t8 t9 t10 t13 t17 t18 t19 t90 t91 t20 t21 t97 t98 t99 D17 of17 D
  rintro t w18 ⟨t3, t8, t9, t10, t13, t17, t18, t19, t90, t91, t20, t24, t129, t130, D, F, q, BM, t131, hq, of, lBM, hBM⟩
  have oo' := F.sl oo.sl fun c hc => by have := (oo.blk c hc).1; omega
  by_cases hql : q < O.length
  · have iq : q < (O.map fun (n : Nat) => (n : Int)).length := by omega
    have eq1 : (O.map fun (n : Nat) => (n : Int))[q] = (O[q] : Int) := by rw [List.getElem_map]
    have iO : O[q] < BM.length := by rw [lBM]; exact hOm _ (List.getElem_mem hql)
    simp (maxSteps := 1000000) (disch := omega) only [WS, ↓reduceIte, Nat.reduceEqDiff, reduceCtorEq, AS, t3, t8, t9, t10, t13, t17, t18, t19, t90, t91, t20, t24, t129, t130, t131, oo'.Xix iq, oo'.Xld iq, cell_int, eq1, of.sl.Xix iO]
    refine Ow.Xst of iO true fun w19 of2 hg => ?_
    have D := Below.app D D.size hg fun b hb => (of.blk b hb).1
    have F := F.gr hg fun c hc => Or.inl (by rw [hbsf] at hc; exact (Option.some.inj hc).symm)
    simp (maxSteps := 1000000) (disch := omega) only [WS, ↓reduceIte, Nat.reduceEqDiff, reduceCtorEq, AS, t3, t8, t9, t10, t13, t17, t18, t19, t90, t91, t20, t24, t129, t130, t131]
    refine ⟨⟨D, F, q + 1, _, rfl, by omega, of2, by rw [List.length_set]; exact lBM, fun j => ?_⟩, by omega⟩
    rw [List.take_succ_eq_append_getElem hql, List.mem_append, List.mem_singleton, List.getD_eq_getElem?_getD, List.getElem?_set]
    by_cases e : O[q] = j
    · subst e
      rw [if_pos rfl, if_pos iO]
      simp
    · rw [if_neg e, ← List.getD_eq_getElem?_getD, hBM j]
      constructor
      · exact fun h => h.elim Or.inl fun h => Or.inr (Or.inl h)
      · exact fun h => h.elim Or.inl fun h => h.elim Or.inr fun h => absurd h.symm e
  obtain rfl : q = O.length := by omega
  rw [List.take_length] at hBM
  have og' := F.ow og fun c hc => by have := (og.blk c hc).1; omega
  have r24' := F.row r24 (by omega)
  have rc' := F.row rc17 (by omega)
  have hE' := hE17.kp F (by omega)
  clear rc17 hE17 og r24 oo oo'
  have op' := op.up D
  simp (maxSteps := 1000000) (disch := omega) only [WS, ↓reduceIte, Nat.reduceEqDiff, reduceCtorEq, AS, t3, t8, t9, t10, t13, t17, t18, t19, t90, t91, t20, t24, t129, t130, t131, lZ91, X_ixsW hil, op'.Xlen, hopl]
  have hnW : ∀ S, S < hs.length → nth ((List.range hs.length).map (wt f K)) S = wt f K S := fun S hS => by
    rw [nth_get (by rw [List.length_map, List.length_range]; exact hS), List.getElem_map, List.getElem_range]
  have iC0 : i * 2 < CL.length := by omega
  have z18 := D.size
  have z18b := F.1
  have hC0 : CL.set (i * 2) (hd (.slice none 0 0)) = CL := by
    have := hCL (i * 2) (Nat.le_refl _)
    rw [Hj_get iC0] at this
    rw [show hd (.slice none 0 0) = CL[i * 2] from by rw [← hd_v CL[i * 2], this]]
    exact List.set_getElem_self ..
  refine loop_of (fun t w' => t 3 = s ∧ t 8 = .slice (some ⟨bc, 0, none⟩) len len ∧ t 9 = z ∧ t 10 = .slice none 0 0 ∧ t 13 = sp ∧ t 17 = .pointer (some ⟨b17, 0, none⟩) ∧ t 18 = .pointer (some ⟨b18, 0, none⟩) ∧ t 19 = sf ∧ t 90 = .int .i64 (len : Int) ∧ t 91 = .int .i64 (i : Int) ∧ t 29 = .func (.func 94) #[] #[.pointer (some ⟨b18, 0, none⟩), .pointer (some ⟨b24, 0, none⟩), .pointer (some ⟨b17, 0, none⟩)] ∧ t 30 = .pointer (some ⟨bc, i * 2, none⟩) ∧ t 143 = sp ∧ t 144 = .int .i64 ((prsL (hln hs) hs.length).length : Int) ∧ RowKit.Below w9.heap.size w9 w' ∧ Kp w18 bc w' ∧ ∃ (q : Nat) (sq : Value), t 145 = .int .i64 (q : Int) ∧ q ≤ (prsL (hln hs) hs.length).length ∧ Row w' bc ((CL.set (i * 2) (hd sq)).map Cell.v) ∧ Ow w18.heap.size w' sq (((prsL (hln hs) hs.length).take q).map (valS f K g))) (fun t _ => (prsL (hln hs) hs.length).length - (toI (t 145)).toNat)
    ⟨by simp only [WS, ↓reduceIte, Nat.reduceEqDiff, reduceCtorEq]; exact t3, by simp only [WS, ↓reduceIte, Nat.reduceEqDiff, reduceCtorEq]; exact t8, by simp only [WS, ↓reduceIte, Nat.reduceEqDiff, reduceCtorEq]; exact t9, by simp only [WS, ↓reduceIte, Nat.reduceEqDiff, reduceCtorEq]; exact t10, by simp only [WS, ↓reduceIte, Nat.reduceEqDiff, reduceCtorEq]; exact t13, by simp only [WS, ↓reduceIte, Nat.reduceEqDiff, reduceCtorEq]; exact t17, by simp only [WS, ↓reduceIte, Nat.reduceEqDiff, reduceCtorEq]; exact t18, by simp only [WS, ↓reduceIte, Nat.reduceEqDiff, reduceCtorEq]; exact t19, by simp only [WS, ↓reduceIte, Nat.reduceEqDiff, reduceCtorEq]; exact t90, by simp only [WS, ↓reduceIte, Nat.reduceEqDiff, reduceCtorEq]; exact t91, by simp only [WS, ↓reduceIte, Nat.reduceEqDiff, reduceCtorEq], by simp only [WS, ↓reduceIte, Nat.reduceEqDiff, reduceCtorEq], by simp only [WS, ↓reduceIte, Nat.reduceEqDiff, reduceCtorEq], by simp only [WS, ↓reduceIte, Nat.reduceEqDiff, reduceCtorEq], D, Kp.refl _ _, 0, .slice none 0 0, by simp only [WS, ↓reduceIte, Nat.reduceEqDiff, reduceCtorEq]; rfl, by omega, by rw [hC0]; exact rc', Or.inl ⟨rfl, rfl⟩⟩ ?_
  clear t3 t8 t9 t10 t13 t17 t18 t19 t90 t91 t20 t24 t129 t130 t131 D op' rc'
  rintro t w19 ⟨t3, t8, t9, t10, t13, t17, t18, t19, t90, t91, t29, t30, t143, t144, D, F8, q, sq, t145, hq, rc, oq⟩
  have hsqv : Cell.v (hd sq) = sq := oq.sl.hd.1
  have hql' : (((prsL (hln hs) hs.length).take q).map (valS f K g)).length = q := by rw [List.length_map, List.length_take]; omega
  by_cases hql : q < (prsL (hln hs) hs.length).length
  · obtain ⟨hp1, hp2⟩ := prsL_get hql
    obtain ⟨S, hS⟩ : ∃ S, S = (prsL (hln hs) hs.length)[q] := ⟨_, rfl⟩
    rw [← hS] at hp1 hp2
    have op' := op.up D
    have iq : q < ((prsL (hln hs) hs.length).map fun (j : Nat) => (j : Int)).length := by omega
    have eq1 : ((prsL (hln hs) hs.length).map fun (j : Nat) => (j : Int))[q] = (S : Int) := by rw [List.getElem_map, hS]
    simp (maxSteps := 1000000) (disch := omega) only [WS, ↓reduceIte, Nat.reduceEqDiff, reduceCtorEq, AS, t3, t8, t9, t10, t13, t17, t18, t19, t90, t91, t29, t30, t143, t144, t145, op'.Xix iq, op'.Xld iq, cell_int, eq1]
    refine WP_dops ?_
    have bd := bel_drew w19
    have D := D.trans (bd.mono D.size)
    have F8 := F8.up bd
    have rc := rc.up bd
    have oq := oq.up bd
    clear bd op'
    have iC : i * 2 < ((CL.set (i * 2) (hd sq)).map (Cell.v : Hd → Value)).length := by rw [List.length_map, List.length_set]; omega
    have ecs : ((CL.set (i * 2) (hd sq)).map (Cell.v : Hd → Value))[i * 2] = sq := by rw [List.getElem_map, List.getElem_set_self, hsqv]
    have see : Fw.sees Try.prog (.ld (.c (.pointer (some ⟨bc, i * 2, none⟩)))) w19.drew sq = True := by rw [← rc.sees iC Try.prog, ecs]
    simp (maxSteps := 1000000) (disch := omega) only [ES, List.mem_cons, List.not_mem_nil, implies_true, forall_const, WS, ↓reduceIte, Nat.reduceEqDiff, reduceCtorEq, AS, t3, t8, t9, t10, t13, t17, t18, t19, t90, t91, t29, t30, t143, t144, t145, rc.Eld iC, ecs]
    refine E_call ?_
    refine (mend_work_1_spec w19.drew b18 b24 b17 pd sg sW K S (xsS (hln hs) hs.length) g ((List.range hs.length).map (wt f K)) (r18.up D) (hD.up D) (F8.row r24' (by omega)) (F8.sl og'.sl fun c hc => by have := (og'.blk c hc).1; omega) (r17.up D) (oW.up D) (by rw [List.length_map, List.length_range]; exact hp1) (by omega) (by rw [hnW S hp1]; exact wt_ne (by omega) (by omega)) (by omega)).mono ?_
    rw [hnW S hp1]
    rintro _ w20 ⟨rfl, hB⟩
    have D := D.trans (hB.mono D.size)
    have F8 := F8.up hB
    have rc := rc.up hB
    have oq := oq.up hB
    clear hB
    have see2 : Fw.sees Try.prog (.ld (.c (.pointer (some ⟨bc, i * 2, none⟩)))) w20 sq = True := by rw [← rc.sees iC Try.prog, ecs]
    simp (maxSteps := 1000000) (disch := omega) only [ES, List.mem_cons, List.not_mem_nil, implies_true, forall_const, WS, ↓reduceIte, Nat.reduceEqDiff, reduceCtorEq, AS, t3, t8, t9, t10, t13, t17, t18, t19, t90, t91, t29, t30, t143, t144, t145, see, see2]
    refine E_bsl (zs := [valS f K g S]) (by rfl) (by rfl) fun e0 w21 oe hB => ?_
    have D := D.trans (hB.mono D.size)
    have F8 := F8.up hB
    have rc := rc.up hB
    have oq := oq.up hB
    clear hB
    have see3 : Fw.sees Try.prog (.ld (.c (.pointer (some ⟨bc, i * 2, none⟩)))) w21 sq = True := by rw [← rc.sees iC Try.prog, ecs]
    simp (maxSteps := 1000000) (disch := omega) only [ES, List.mem_cons, List.not_mem_nil, implies_true, forall_const, WS, ↓reduceIte, Nat.reduceEqDiff, reduceCtorEq, AS, t3, t8, t9, t10, t13, t17, t18, t19, t90, t91, t29, t30, t143, t144, t145, see, see2, see3]
    refine Ow.Eapp oq oe.sl F8.1 (by rw [hql']; simp only [List.length_singleton, maxBytes]; omega) (by rw [hql']; simp only [List.length_singleton]; omega) fun e1 w22 oq2 hg hn2 => ?_
    have D := Below.app D D.size hg fun b hb => by have := (oq.blk b hb).1; omega
    have F8 := F8.gr hg fun c hc => Or.inr (oq.blk c hc).1
    have rc := rc.grown hg fun e => by have := (oq.blk bc e.symm).1; omega
    clear hg hn2
    have hs1 : scal e1 = true := by obtain ⟨_, _, rfl, -⟩ := oq2.sl.sh; rfl
    have hv1 : Cell.v (hd e1) = e1 := oq2.sl.hd.1
    simp (maxSteps := 1000000) (disch := omega) only [ES, List.mem_cons, List.not_mem_nil, implies_true, forall_const, WS, ↓reduceIte, Nat.reduceEqDiff, reduceCtorEq, AS, t3, t8, t9, t10, t13, t17, t18, t19, t90, t91, t29, t30, t143, t144, t145]
    refine Row.Est rc iC hs1 fun w23 rc2 hg => ?_
    have D := Below.app D D.size (s := .slice (some ⟨bc, 0, none⟩) 0 0) hg fun b hb => by cases hb; show w9.heap.size ≤ bc; omega
    have F8 := F8.gr hg fun c hc => Or.inl (Option.some.inj hc).symm
    have oq2 := oq2.gr' hg fun c hc e => by cases hc; have := (oq2.blk _ e).1; omega
    rw [← hv1, ← List.map_set, List.set_set] at rc2
    simp (maxSteps := 1000000) (disch := omega) only [ES, List.mem_cons, List.not_mem_nil, implies_true, forall_const, WS, ↓reduceIte, Nat.reduceEqDiff, reduceCtorEq, AS, t3, t8, t9, t10, t13, t17, t18, t19, t90, t91, t29, t30, t143, t144, t145]
    refine ⟨⟨D, F8, q + 1, e1, rfl, by omega, rc2, ?_⟩, by omega⟩
    rw [List.take_succ_eq_append_getElem hql, List.map_append, ← hS]
    exact oq2
  obtain rfl : q = (prsL (hln hs) hs.length).length := by omega
  rw [List.take_length] at oq
  have og2 := F8.ow og' fun c hc => by have := (og'.blk c hc).1; omega
  have r24b := F8.row r24' (by omega)
  have hE2 : Ent w11.heap.size w19 f K (hln hs) hs.length R CL G i := fun x hx => by
    obtain ⟨a1, a2, a3⟩ := hE' x hx
    exact ⟨a1, F8.ow a2 fun c hc => by have := (a2.blk c hc).1; omega, F8.ow a3 fun c hc => by have := (a3.blk c hc).1; omega⟩
  have of2 := F8.ow of fun c hc => by rw [hbsf] at hc; cases hc; omega
  have z19 := F8.1
  clear hE' of r24' og' F8
  have ozl : (zis (hln hs) hs.length).length = (misL (hln hs) hs.length).length := List.length_map ..
  have oz' := oz.up D
  have hsc : ∀ x, Cell.v x = sq → hd sq = x := fun x e => by rw [← e]; rfl
  have iC1 : i * 2 + 1 < (CL.set (i * 2) (hd sq)).length := by rw [List.length_set]; omega
  have hC1 : (CL.set (i * 2) (hd sq)).set (i * 2 + 1) (hd (.slice none 0 0)) = CL.set (i * 2) (hd sq) := by
    have h1 : i * 2 + 1 < CL.length := by omega
    have := hCL (i * 2 + 1) (by omega)
    rw [Hj_get h1] at this
    have h2 : (CL.set (i * 2) (hd sq))[i * 2 + 1] = CL[i * 2 + 1] := List.getElem_set_ne (by omega) _
    rw [show hd (.slice none 0 0) = (CL.set (i * 2) (hd sq))[i * 2 + 1] from by rw [h2, ← hd_v CL[i * 2 + 1], this]]
    exact List.set_getElem_self ..
  simp (maxSteps := 1000000) (disch := omega) only [WS, ↓reduceIte, Nat.reduceEqDiff, reduceCtorEq, AS, t3, t8, t9, t10, t13, t17, t18, t19, t90, t91, t29, t30, t143, t144, t145, oz'.sl.Xlen, ozl]
  refine loop_of (fun t w' => t 3 = s ∧ t 8 = .slice (some ⟨bc, 0, none⟩) len len ∧ t 9 = z ∧ t 10 = .slice none 0 0 ∧ t 13 = sp ∧ t 17 = .pointer (some ⟨b17, 0, none⟩) ∧ t 18 = .pointer (some ⟨b18, 0, none⟩) ∧ t 19 = sf ∧ t 90 = .int .i64 (len : Int) ∧ t 91 = .int .i64 (i : Int) ∧ t 29 = .func (.func 94) #[] #[.pointer (some ⟨b18, 0, none⟩), .pointer (some ⟨b24, 0, none⟩), .pointer (some ⟨b17, 0, none⟩)] ∧ t 30 = .pointer (some ⟨bc, i * 2, none⟩) ∧ t 162 = z ∧ t 163 = .int .i64 ((misL (hln hs) hs.length).length : Int) ∧ RowKit.Below w9.heap.size w9 w' ∧ Kp w19 bc w' ∧ ∃ (q : Nat) (sr : Value), t 164 = .int .i64 (q : Int) ∧ q ≤ (misL (hln hs) hs.length).length ∧ Row w' bc (((CL.set (i * 2) (hd sq)).set (i * 2 + 1) (hd sr)).map Cell.v) ∧ Ow w19.heap.size w' sr (((misL (hln hs) hs.length).take q).map (valS f K g))) (fun t _ => (misL (hln hs) hs.length).length - (toI (t 164)).toNat)
    ⟨by simp only [WS, ↓reduceIte, Nat.reduceEqDiff, reduceCtorEq]; exact t3, by simp only [WS, ↓reduceIte, Nat.reduceEqDiff, reduceCtorEq]; exact t8, by simp only [WS, ↓reduceIte, Nat.reduceEqDiff, reduceCtorEq]; exact t9, by simp only [WS, ↓reduceIte, Nat.reduceEqDiff, reduceCtorEq]; exact t10, by simp only [WS, ↓reduceIte, Nat.reduceEqDiff, reduceCtorEq]; exact t13, by simp only [WS, ↓reduceIte, Nat.reduceEqDiff, reduceCtorEq]; exact t17, by simp only [WS, ↓reduceIte, Nat.reduceEqDiff, reduceCtorEq]; exact t18, by simp only [WS, ↓reduceIte, Nat.reduceEqDiff, reduceCtorEq]; exact t19, by simp only [WS, ↓reduceIte, Nat.reduceEqDiff, reduceCtorEq]; exact t90, by simp only [WS, ↓reduceIte, Nat.reduceEqDiff, reduceCtorEq]; exact t91, by simp only [WS, ↓reduceIte, Nat.reduceEqDiff, reduceCtorEq]; exact t29, by simp only [WS, ↓reduceIte, Nat.reduceEqDiff, reduceCtorEq]; exact t30, by simp only [WS, ↓reduceIte, Nat.reduceEqDiff, reduceCtorEq], by simp only [WS, ↓reduceIte, Nat.reduceEqDiff, reduceCtorEq], D, Kp.refl _ _, 0, .slice none 0 0, by simp only [WS, ↓reduceIte, Nat.reduceEqDiff, reduceCtorEq]; rfl, by omega, by rw [hC1]; exact rc, Or.inl ⟨rfl, rfl⟩⟩ ?_
  clear t3 t8 t9 t10 t13 t17 t18 t19 t90 t91 t29 t30 t143 t144 t145 D rc oz'
  rintro t w20 ⟨t3, t8, t9, t10, t13, t17, t18, t19, t90, t91, t29, t30, t162, t163, D, F9, q, sr, t164, hq, rc, or⟩
  have hsrv : Cell.v (hd sr) = sr := or.sl.hd.1
  have hql' : (((misL (hln hs) hs.length).take q).map (valS f K g)).length = q := by rw [List.length_map, List.length_take]; omega
  by_cases hql : q < (misL (hln hs) hs.length).length
  · obtain ⟨hp1, hp2⟩ := misL_mem.1 (List.getElem_mem hql)
    obtain ⟨S, hS⟩ : ∃ S, S = (misL (hln hs) hs.length)[q] := ⟨_, rfl⟩
    rw [← hS] at hp1 hp2
    have oz' := (oz.up D).sl
    have iq : q < (zis (hln hs) hs.length).length := by omega
    have eq1 : (zis (hln hs) hs.length)[q] = (S : Int) := by rw [hS]; exact List.getElem_map ..
    simp (maxSteps := 1000000) (disch := omega) only [WS, ↓reduceIte, Nat.reduceEqDiff, reduceCtorEq, AS, t3, t8, t9, t10, t13, t17, t18, t19, t90, t91, t29, t30, t162, t163, t164, oz'.Xix iq, oz'.Xld iq, cell_int, eq1]
    refine WP_dops ?_
    have bd := bel_drew w20
    have D := D.trans (bd.mono D.size)
    have F9 := F9.up bd
    have rc := rc.up bd
    have or := or.up bd
    clear bd oz'
    have iC : i * 2 + 1 < (((CL.set (i * 2) (hd sq)).set (i * 2 + 1) (hd sr)).map (Cell.v : Hd → Value)).length := by rw [List.length_map, List.length_set]; exact iC1
    have ecs : (((CL.set (i * 2) (hd sq)).set (i * 2 + 1) (hd sr)).map (Cell.v : Hd → Value))[i * 2 + 1] = sr := by rw [List.getElem_map, List.getElem_set_self, hsrv]
    have see : Fw.sees Try.prog (.ld (.c (.pointer (some ⟨bc, i * 2 + 1, none⟩)))) w20.drew sr = True := by rw [← rc.sees iC Try.prog, ecs]
    simp (maxSteps := 1000000) (disch := omega) only [ES, List.mem_cons, List.not_mem_nil, implies_true, forall_const, WS, ↓reduceIte, Nat.reduceEqDiff, reduceCtorEq, AS, t3, t8, t9, t10, t13, t17, t18, t19, t90, t91, t29, t30, t162, t163, t164, rc.Eld iC, ecs]
    refine E_call ?_
    refine (mend_work_1_spec w20.drew b18 b24 b17 pd sg sW K S (xsS (hln hs) hs.length) g ((List.range hs.length).map (wt f K)) (r18.up D) (hD.up D) (F9.row r24b (by omega)) (F9.sl og2.sl fun c hc => by have := (og2.blk c hc).1; omega) (r17.up D) (oW.up D) (by rw [List.length_map, List.length_range]; exact hp1) (by omega) (by rw [hnW S hp1]; exact wt_ne (by omega) (by omega)) (by omega)).mono ?_
    rw [hnW S hp1]
    rintro _ w21 ⟨rfl, hB⟩
    have D := D.trans (hB.mono D.size)
    have F9 := F9.up hB
    have rc := rc.up hB
    have or := or.up hB
    clear hB
    have see2 : Fw.sees Try.prog (.ld (.c (.pointer (some ⟨bc, i * 2 + 1, none⟩)))) w21 sr = True := by rw [← rc.sees iC Try.prog, ecs]
    simp (maxSteps := 1000000) (disch := omega) only [ES, List.mem_cons, List.not_mem_nil, implies_true, forall_const, WS, ↓reduceIte, Nat.reduceEqDiff, reduceCtorEq, AS, t3, t8, t9, t10, t13, t17, t18, t19, t90, t91, t29, t30, t162, t163, t164, see, see2]
    refine E_bsl (zs := [valS f K g S]) (by rfl) (by rfl) fun e0 w22 oe hB => ?_
    have D := D.trans (hB.mono D.size)
    have F9 := F9.up hB
    have rc := rc.up hB
    have or := or.up hB
    clear hB
    have see3 : Fw.sees Try.prog (.ld (.c (.pointer (some ⟨bc, i * 2 + 1, none⟩)))) w22 sr = True := by rw [← rc.sees iC Try.prog, ecs]
    simp (maxSteps := 1000000) (disch := omega) only [ES, List.mem_cons, List.not_mem_nil, implies_true, forall_const, WS, ↓reduceIte, Nat.reduceEqDiff, reduceCtorEq, AS, t3, t8, t9, t10, t13, t17, t18, t19, t90, t91, t29, t30, t162, t163, t164, see, see2, see3]
    refine Ow.Eapp or oe.sl F9.1 (by rw [hql']; simp only [List.length_singleton, maxBytes]; omega) (by rw [hql']; simp only [List.length_singleton]; omega) fun e1 w23 or2 hg hn2 => ?_
    have D := Below.app D D.size hg fun b hb => by have := (or.blk b hb).1; omega
    have F9 := F9.gr hg fun c hc => Or.inr (or.blk c hc).1
    have rc := rc.grown hg fun e => by have := (or.blk bc e.symm).1; omega
    clear hg hn2
    have hs1 : scal e1 = true := by obtain ⟨_, _, rfl, -⟩ := or2.sl.sh; rfl
    have hv1 : Cell.v (hd e1) = e1 := or2.sl.hd.1
    simp (maxSteps := 1000000) (disch := omega) only [ES, List.mem_cons, List.not_mem_nil, implies_true, forall_const, WS, ↓reduceIte, Nat.reduceEqDiff, reduceCtorEq, AS, t3, t8, t9, t10, t13, t17, t18, t19, t90, t91, t29, t30, t162, t163, t164]
    refine Row.Est rc iC hs1 fun w24 rc2 hg => ?_
    have D := Below.app D D.size (s := .slice (some ⟨bc, 0, none⟩) 0 0) hg fun b hb => by cases hb; show w9.heap.size ≤ bc; omega
    have F9 := F9.gr hg fun c hc => Or.inl (Option.some.inj hc).symm
    have or2 := or2.gr' hg fun c hc e => by cases hc; have := (or2.blk _ e).1; omega
    rw [← hv1, ← List.map_set, List.set_set] at rc2
    simp (maxSteps := 1000000) (disch := omega) only [ES, List.mem_cons, List.not_mem_nil, implies_true, forall_const, WS, ↓reduceIte, Nat.reduceEqDiff, reduceCtorEq, AS, t3, t8, t9, t10, t13, t17, t18, t19, t90, t91, t29, t30, t162, t163, t164]
    refine ⟨⟨D, F9, q + 1, e1, rfl, by omega, rc2, ?_⟩, by omega⟩
    rw [List.take_succ_eq_append_getElem hql, List.map_append, ← hS]
    exact or2
  obtain rfl : q = (misL (hln hs) hs.length).length := by omega
  rw [List.take_length] at or
  have oq := F9.ow oq fun c hc => by have := (oq.blk c hc).1; omega
  have hE3 : Ent w11.heap.size w20 f K (hln hs) hs.length R CL G i := fun x hx => by
    obtain ⟨a1, a2, a3⟩ := hE2 x hx
    exact ⟨a1, F9.ow a2 fun c hc => by have := (a2.blk c hc).1; omega, F9.ow a3 fun c hc => by have := (a3.blk c hc).1; omega⟩
  have of3 := F9.ow of2 fun c hc => by rw [hbsf] at hc; cases hc; omega
  have z20 := F9.1
  clear hE2 of2 F9
  simp (maxSteps := 1000000) (disch := omega) only [WS, ↓reduceIte, Nat.reduceEqDiff, reduceCtorEq, AS, t3, t8, t9, t10, t13, t17, t18, t19, t90, t91, t29, t30, t162, t163, t164]
  refine ⟨⟨D, by omega, i + 1, BM, _, fun x => if x = i then g else G x, rfl, by omega, of3, lBM, fun j => ?_, rc, by rw [List.length_set, List.length_set]; exact lCL, fun x hx => ?_, hE3.push (by omega) hnr (by rw [hsqv]; exact oq.mono (by omega)) (by rw [hsrv]; exact or.mono (by omega))⟩, by omega⟩
  · have eG : ∀ x, x ≠ i → (fun x => if x = i then g else G x) x = G x := fun x hx => if_neg hx
    have eg : (fun x => if x = i then g else G x) i = g := if_pos rfl
    rw [hBM j, hBL j]
    constructor
    · rintro (⟨x, hx, hj⟩ | hj)
      · refine ⟨x, by omega, ?_⟩
        rw [eG x (by omega)]
        exact hj
      · refine ⟨i, by omega, ?_⟩
        rw [eg, ← hO]
        exact hj
    · rintro ⟨x, hx, hj⟩
      by_cases e : x = i
      · subst e
        rw [eg, ← hO] at hj
        exact Or.inr hj
      · rw [eG x e] at hj
        exact Or.inl ⟨x, by omega, hj⟩
  · rw [Hj_set (by omega), if_neg (by omega), Hj_set (by omega), if_neg (by omega)]
    exact hCL x (by omega)
end Go.Proofs.Ytbaljbadlfopgaa.Fw
