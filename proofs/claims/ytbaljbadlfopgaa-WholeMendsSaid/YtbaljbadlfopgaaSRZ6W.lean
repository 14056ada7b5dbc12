import Derived.Test.YtbaljbadlfopgaaProg
import Derived.Test.YtbaljbadlfopgaaFwTW
import Derived.Test.YtbaljbadlfopgaaSRY1W
import Derived.Test.YtbaljbadlfopgaaFwWW
import Derived.Test.YtbaljbadlfopgaaSRZ3W
set_option linter.all false
set_option linter.unusedVariables false
set_option linter.unusedSimpArgs false
set_option maxRecDepth 100000
set_option maxHeartbeats 1000000
namespace Go.Proofs.Ytbaljbadlfopgaa.Fw
open Go Go.Fw Go.Proofs
attribute [local irreducible] stepI
end Go.Proofs.Ytbaljbadlfopgaa.Fw
namespace Go.Proofs.Ytbaljbadlfopgaa.Fw
open Go Go.Fw
theorem prm_zero {f k m : Int} (hf : f = 0 ∨ f = 1) (hk : 1 ≤ k) (hm : 1 ≤ m) (hkm : k + m ≤ 256) : prm f k m = 0 := by
  unfold prm
  rw [if_neg (by omega), if_neg (by omega), if_neg (by omega), if_neg (by omega)]
theorem cnt_zero {f k m : Int} {n : Nat} (hf : f = 0 ∨ f = 1) (hk : 1 ≤ k) (hm : 1 ≤ m) (hkm : k + m ≤ 256) (hn : (n : Int) = k + m) : cnt f k m n = 0 := by
  unfold cnt
  rw [if_neg (fun h => h (prm_zero hf hk hm hkm)), if_neg (by omega)]
theorem wer_ok {f k m : Int} {L : Nat → Nat} {n len T : Nat} {ev : Bool} (hf : f = 0 ∨ f = 1) (hk : 1 ≤ k) (hm : 1 ≤ m) (hkm : k + m ≤ 256) (hn : (n : Int) = k + m) (hL : Lns L n len ev) (hT : 1 ≤ T) (hLT : ∀ j, j < n → L j = 0 ∨ L j = T) (hz : ((zis L n).length : Int) ≤ m) : wer f k m L n len ev = 0 ∧ len = T := by
  have hnp := prsL_len L n
  obtain ⟨a1, a2⟩ := prsL_get (L := L) (n := n) (i := 0) (by omega)
  have h0 : len ≠ 0 := fun e => a2 (hL.z.1 e _ a1)
  obtain ⟨j, hj, hj2⟩ := hL.m h0
  have hlT : len = T := by
    rcases hLT j hj with e | e
    · omega
    · omega
  have hev : ev = true := hL.e.2 fun i hi => by rw [hlT]; exact hLT i hi
  refine ⟨?_, hlT⟩
  unfold wer prt
  rw [if_pos hf, if_neg (fun h => h (cnt_zero hf hk hm hkm hn)), if_neg h0, hev, if_neg (by simp), if_neg (by unfold oddB; rw [decide_eq_false (by omega)]; simp), if_neg (by omega)]
def zc (R : Nat → List (El 8)) (n : Nat) : Nat := (zis (fun j => (R j).length) n).length
theorem zc_succ (R : Nat → List (El 8)) (n : Nat) : zc R (n + 1) = zc R n + if (R n).length = 0 then 1 else 0 := by
  unfold zc
  rw [zis_succ]
  split
  · rw [List.length_append, List.length_singleton]
  · rfl
theorem zc_congr {R R' : Nat → List (El 8)} : ∀ n, (∀ j, j < n → (R j).length = (R' j).length) → zc R n = zc R' n
  | 0, _ => rfl
  | n + 1, h => by rw [zc_succ, zc_succ, zc_congr n fun j hj => h j (by omega), h n (by omega)]
theorem zc_cut {R : Nat → List (El 8)} {i : Nat} (hi : R i ≠ []) : ∀ n, i < n → zc (fun y => if y = i then [] else R y) n = zc R n + 1
  | 0, h => absurd h (Nat.not_lt_zero _)
  | n + 1, h => by
    rw [zc_succ, zc_succ]
    by_cases e : n = i
    · subst e
      rw [zc_congr (R' := R) n fun j hj => by simp only [if_neg (show j ≠ n by omega)]]
      have h1 : (R n).length ≠ 0 := fun e => hi (List.length_eq_zero_iff.1 e)
      rw [if_pos (by simp), if_neg h1]
    · rw [zc_cut hi n (by omega)]
      simp only [if_neg e]
      omega
theorem zc_zero {R : Nat → List (El 8)} : ∀ n, (∀ j, j < n → R j ≠ []) → zc R n = 0
  | 0, _ => rfl
  | n + 1, h => by
    have h1 : (R n).length ≠ 0 := fun e => h n (by omega) (List.length_eq_zero_iff.1 e)
    rw [zc_succ, zc_zero n fun j hj => h j (by omega), if_neg h1]
theorem wrong_of {w : World} {vs : List Value} (h : vs.length = 3 ∧ RF 1 (RI .i64) (RF 1 (RI .i64) (RF 1 (RC (El 8) fun _ _ => True) RZ)) w vs) : ∃ (a c : Int) (x : El 8), vs = [.int .i64 a, .int .i64 c, .int .u8 (x.v.toNat : Int)] := by
  obtain ⟨hl, h⟩ := h
  obtain ⟨u0, c0, rfl, y0, h⟩ := RF.split h RI.one
  obtain ⟨u1, c1, rfl, y1, h⟩ := RF.split h RI.one
  obtain ⟨u2, c2, rfl, y2, h⟩ := RF.split h RC.one
  obtain rfl : c2 = [] := List.eq_nil_of_length_eq_zero (by simpa using hl)
  obtain ⟨a, e0, -⟩ := y0
  obtain ⟨c, e1, -⟩ := y1
  obtain ⟨x, e2, -⟩ := y2
  simp only [List.cons.injEq, and_true] at e0 e1 e2
  subst e0 e1 e2
  exact ⟨a, c, x, rfl⟩
end Go.Proofs.Ytbaljbadlfopgaa.Fw

set_option linter.unusedVariables false
set_option linter.unusedSimpArgs false
set_option maxRecDepth 100000
set_option maxHeartbeats 1000000
namespace Go.Proofs.Ytbaljbadlfopgaa.Fw
open Go Go.Fw Go.Proofs
attribute [local irreducible] stepI

end Go.Proofs.Ytbaljbadlfopgaa.Fw
namespace Go.Proofs.Ytbaljbadlfopgaa.Fw
open Go Go.Fw
/-- What Shards is to answer: the error's number, the rows behind it, the wrong ones. -/
def ShR (f k m : Int) (L : Nat → Nat) (n : Nat) (R : Nat → List (El 8)) (e : Int) (RW : Nat → List (El 8)) (WL : List Int) : Prop :=
  ∃ (len : Nat) (ev : Bool), (cnt f k m n = 0 → Lns L n len ev) ∧
    ((wer f k m L n len ev ≠ 0 ∧ e = wer f k m L n len ev ∧ RW = R ∧ WL = []) ∨
     (wer f k m L n len ev = 0 ∧ MOk f k m L n len ∧ ((e = 190 ∧ RW = R ∧ WL = [] ∧ ∃ t, t < len ∧ farS f k.toNat L n R t) ∨
       (e = 0 ∧ ∃ G, RW = rowS f k.toNat G len ∧ (∀ t, t < len → nearS f k.toNat L n R t (G t)) ∧ WL = ((prsL L n).filter fun s => !decide (R s = rowS f k.toNat G len s)).map fun (j : Nat) => (j : Int)))))
theorem mok_len {f k m : Int} {L : Nat → Nat} {n len len' : Nat} (h : MOk f k m L n len) (h' : MOk f k m L n len') : len = len' := by
  have hnp := prsL_len L n
  have h1 := h.hn
  have h2 := h.hk
  have h3 := h.hz
  have h4 := h.hm
  have h5 := h.hlen
  obtain ⟨a1, a2⟩ := prsL_get (L := L) (n := n) (i := 0) (by omega)
  have b1 := (h.hL _ a1).resolve_left a2
  have b2 := (h'.hL _ a1).resolve_left a2
  omega
theorem rowS_congr' {f : Int} {k : Nat} {G G' : Nat → List (El 8)} {len s : Nat} (h : ∀ t, t < len → G t = G' t) : rowS f k G len s = rowS f k G' len s := by
  unfold rowS
  exact List.map_congr_left fun t ht => by rw [h t (List.mem_range.1 ht)]
theorem far_near {f : Int} {k : Nat} {L : Nat → Nat} {n : Nat} {R : Nat → List (El 8)} {t : Nat} {g : List (El 8)} (h : farS f k L n R t) (h' : nearS f k L n R t g) : False := by
  have := h g h'.1 h'.2.1
  have := h'.2.2
  omega
theorem mok_pk {f k m : Int} {L : Nat → Nat} {n len : Nat} (h : MOk f k m L n len) : n ≤ 256 ∧ k.toNat ≤ (prsL L n).length := by
  have hnp := prsL_len L n
  have h1 := h.hn
  have h2 := h.hk
  have h3 := h.hz
  have h4 := h.hm
  have h5 := h.km
  omega
theorem ShR.uniq {f k m : Int} {L : Nat → Nat} {n : Nat} {R : Nat → List (El 8)} {e e' : Int} {RW RW' : Nat → List (El 8)} {WL WL' : List Int} (h : ShR f k m L n R e RW WL) (h' : ShR f k m L n R e' RW' WL') : e = e' ∧ RW = RW' ∧ WL = WL' := by
  obtain ⟨len, ev, hL, h⟩ := h
  obtain ⟨len', ev', hL', h'⟩ := h'
  have hw := wer_uniq (f := f) (k := k) (m := m) hL hL'
  rcases h with ⟨a1, a2, a3, a4⟩ | ⟨a1, hM, a⟩ <;> rcases h' with ⟨b1, b2, b3, b4⟩ | ⟨b1, hM', b⟩
  · exact ⟨by rw [a2, b2, hw], by rw [a3, b3], by rw [a4, b4]⟩
  · exact absurd (hw.trans b1) a1
  · exact absurd (hw.symm.trans a1) b1
  obtain rfl := mok_len hM hM'
  obtain ⟨p1, p2⟩ := mok_pk hM
  rcases a with ⟨a2, a3, a4, t, ht, hf⟩ | ⟨a2, G, a3, a4, a5⟩ <;> rcases b with ⟨b2, b3, b4, t', ht', hf'⟩ | ⟨b2, G', b3, b4, b5⟩
  · exact ⟨by rw [a2, b2], by rw [a3, b3], by rw [a4, b4]⟩
  · exact (far_near hf (b4 t ht)).elim
  · exact (far_near hf' (a4 t' ht')).elim
  · have hG : ∀ t, t < len → G t = G' t := fun t ht => nearS_uniq p1 p2 (a4 t ht) (b4 t ht)
    have hR : rowS f k.toNat G len = rowS f k.toNat G' len := funext fun s => rowS_congr' hG
    exact ⟨by rw [a2, b2], by rw [a3, b3, hR], by rw [a5, b5, hR]⟩
theorem prsL_all {L : Nat → Nat} {n : Nat} (h : ∀ j, j < n → L j ≠ 0) : prsL L n = List.range n := by
  unfold prsL
  exact List.filter_eq_self.2 fun j hj => by simpa using h j (List.mem_range.1 hj)
/-- What was mended has nothing to mend. -/
theorem ShR.again {f k m : Int} {L L2 : Nat → Nat} {n : Nat} {R : Nat → List (El 8)} {e e2 : Int} {RW RW2 : Nat → List (El 8)} {WL WL2 : List Int} (h : ShR f k m L n R e RW WL) (hL0 : ∀ j, j < n → L j = (R j).length) (hL2 : ∀ j, j < n → L2 j = (RW j).length) (hLo : ∀ j, n ≤ j → L2 j = L j) (h2 : ShR f k m L2 n RW e2 RW2 WL2) : e2 = e ∧ (e ≠ 0 ∨ WL2 = []) := by
  obtain ⟨len, ev, hL, h⟩ := id h
  have same : RW = R → e2 = e ∧ WL2 = WL := fun hR => by
    subst hR
    have : L2 = L := funext fun j => by
      by_cases hj : j < n
      · rw [hL2 j hj, hL0 j hj]
      · exact hLo j (by omega)
    subst this
    obtain ⟨x1, -, x3⟩ := ShR.uniq ‹ShR f k m L2 n RW e RW WL› h2
    exact ⟨x1.symm, x3.symm⟩
  rcases h with ⟨a1, a2, a3, a4⟩ | ⟨a1, hM, ⟨a2, a3, a4, t, ht, hf⟩ | ⟨a2, G, a3, a4, a5⟩⟩
  · obtain ⟨x1, x2⟩ := same a3
    exact ⟨x1, Or.inr (x2.trans a4)⟩
  · obtain ⟨x1, x2⟩ := same a3
    exact ⟨x1, Or.inr (x2.trans a4)⟩
  have hlen := hM.hlen
  have l2 : ∀ j, j < n → L2 j = len := fun j hj => by rw [hL2 j hj, a3, rowS_len]
  have hp2 : prsL L2 n = List.range n := prsL_all fun j hj => by rw [l2 j hj]; omega
  have hpl : (prsL L2 n).length = n := by rw [hp2, List.length_range]
  have hz2 : (zis L2 n).length = 0 := by have := prsL_len L2 n; omega
  have hL' : Lns L2 n len true := ⟨⟨fun e j hj => by rw [l2 j hj, e], fun e => by
      obtain ⟨p1, p2⟩ := mok_pk hM
      have := hM.hn
      have := hM.hk
      have := hM.hm
      have := e 0 (by omega)
      rw [l2 0 (by omega)] at this
      exact this⟩, ⟨fun _ j hj => Or.inr (l2 j hj), fun _ => rfl⟩, fun _ => ⟨0, by have := hM.hn; have := hM.hk; have := hM.hm; omega, l2 0 (by have := hM.hn; have := hM.hk; have := hM.hm; omega)⟩⟩
  have hc0 : cnt f k m n = 0 := cnt_zero hM.hf hM.hk hM.hm hM.km hM.hn
  have hw : wer f k m L2 n len true = 0 := by
    unfold wer prt oddB
    have := hM.hm
    rw [if_pos hM.hf, if_neg (fun e => e hc0), if_neg (by omega), if_neg (by decide), hz2]
    have hf2 : ¬ f = 2 := by have := hM.hf; omega
    rw [decide_eq_false (fun e => hf2 e.1), if_neg (by decide), if_neg (by omega)]
  have hM2 : MOk f k m L2 n len := ⟨hM.hf, hM.hk, hM.hm, hM.km, hM.hn, hM.hlen, fun j hj => Or.inr (l2 j hj), by rw [hz2]; have := hM.hm; omega⟩
  obtain ⟨p1, p2⟩ := mok_pk hM2
  have hoff : ∀ t, t < len → offS f k.toNat L2 n RW t (G t) = [] := fun t ht => by
    have hl := offS_len (f := f) (K := k.toNat) (L := L2) (n := n) (R := RW) (t := t) (g := G t) (by omega) (by have := mok_prm hM; omega)
    refine List.eq_nil_of_length_eq_zero (hl.trans ?_)
    rw [List.length_eq_zero_iff, List.filter_eq_nil_iff]
    intro s hs
    have : nth (RW s) t = valS f k.toNat (G t) s := by
      rw [a3]
      have h9 : t < (rowS f k.toNat G len s).length := by rw [rowS_len]; exact ht
      rw [nth_get h9, rowS_get h9]
    simp [this]
  have hG : ∀ t, t < len → nearS f k.toNat L2 n RW t (G t) := fun t ht => ⟨(a4 t ht).1, (a4 t ht).2.1, by rw [hoff t ht]; exact Nat.zero_le _⟩
  have h3 : ShR f k m L2 n RW 0 (rowS f k.toNat G len) [] := ⟨len, true, fun _ => hL', Or.inr ⟨hw, hM2, Or.inr ⟨rfl, G, rfl, hG, by
    have : (prsL L2 n).filter (fun s => !decide (RW s = rowS f k.toNat G len s)) = [] := List.filter_eq_nil_iff.2 fun s _ => by rw [a3]; simp
    rw [this]; rfl⟩⟩⟩
  obtain ⟨x1, -, x3⟩ := h3.uniq h2
  exact ⟨by rw [← x1, a2], Or.inr x3.symm⟩
/-- In its place: a row that was there keeps its length. -/
theorem ShR.len {f k m : Int} {L : Nat → Nat} {n : Nat} {R : Nat → List (El 8)} {e : Int} {RW : Nat → List (El 8)} {WL : List Int} (h : ShR f k m L n R e RW WL) (hL0 : ∀ j, j < n → L j = (R j).length) {j : Nat} (hj : j < n) (hn : R j ≠ []) : (RW j).length = (R j).length := by
  obtain ⟨len, ev, hL, ⟨a1, a2, a3, a4⟩ | ⟨a1, hM, ⟨a2, a3, a4, t, ht, hf⟩ | ⟨a2, G, a3, a4, a5⟩⟩⟩ := h
  · rw [a3]
  · rw [a3]
  · rw [a3, rowS_len, ← hL0 j hj]
    have := (hM.hL j hj).resolve_left (by rw [hL0 j hj]; exact fun e => hn (List.length_eq_zero_iff.1 e))
    exact this.symm
theorem ShR.wl {f k m : Int} {L : Nat → Nat} {n : Nat} {R : Nat → List (El 8)} {e : Int} {RW : Nat → List (El 8)} {WL : List Int} (h : ShR f k m L n R e RW WL) : WL.length ≤ n := by
  obtain ⟨len, ev, hL, ⟨a1, a2, a3, a4⟩ | ⟨a1, hM, ⟨a2, a3, a4, t, ht, hf⟩ | ⟨a2, G, a3, a4, a5⟩⟩⟩ := h
  · rw [a4]; exact Nat.zero_le _
  · rw [a4]; exact Nat.zero_le _
  · rw [a5, List.length_map]
    have := List.length_filter_le (fun s => !decide (R s = rowS f k.toNat G len s)) (prsL L n)
    have := prsL_len L n
    omega
end Go.Proofs.Ytbaljbadlfopgaa.Fw

set_option linter.unusedVariables false
set_option linter.unusedSimpArgs false
set_option maxRecDepth 100000
set_option maxHeartbeats 1000000
namespace Go.Proofs.Ytbaljbadlfopgaa.Fw
open Go Go.Fw Go.Proofs
attribute [local irreducible] stepI
end Go.Proofs.Ytbaljbadlfopgaa.Fw
namespace Go.Proofs.Ytbaljbadlfopgaa.Fw
open Go Go.Fw
end Go.Proofs.Ytbaljbadlfopgaa.Fw

set_option linter.unusedVariables false
set_option linter.unusedSimpArgs false
set_option maxRecDepth 100000
set_option maxHeartbeats 1000000
namespace Go.Proofs.Ytbaljbadlfopgaa.Fw
open Go Go.Fw Go.Proofs
attribute [local irreducible] stepI
end Go.Proofs.Ytbaljbadlfopgaa.Fw
namespace Go.Proofs.Ytbaljbadlfopgaa.Fw
open Go Go.Fw
theorem mend_Shards_R {B : Nat} {Fr : World → Prop} {Df : Nat → Prop} {Tm : Nat → List (El 8)} (w : World) (f k m : Int) (s : Value) (hs : List Hd) (R : Nat → List (El 8)) (hF : Frm Fr Df) (hS : ShM B Fr Tm s hs R w) (hB : B ≤ w.heap.size) (hDr : ∀ j (hj : j < hs.length) b, Fw.blk (Cell.v hs[j]) = some b → R j ≠ [] → Df b) (hDv : ∀ b, Fw.blk s = some b → Df b) (hT : ∀ j, R j = [] → Tm j = []) (hlb : ∀ j, hln hs j ≤ 1099511627776) :
    CallV Try.prog 24 [.int .i64 f, .int .i64 k, .int .i64 m, s] w fun v w' => w.heap.size ≤ w'.heap.size ∧ ∃ (e : Int) (RW : Nat → List (El 8)) (WL : List Int) (sw : Value) (hs' : List Hd), v = .tuple #[sw, .int .i64 e] ∧ ShR f k m (hln hs) hs.length R e RW WL ∧ hs'.length = hs.length ∧ ShM B Fr Tm s hs' RW w' ∧ (∀ j (hj : j < hs.length) (hj' : j < hs'.length), R j ≠ [] → hs'[j] = hs[j]) ∧ Ow w.heap.size w' sw WL := by
  have hlr : ∀ j, j < hs.length → hln hs j = (R j).length := fun j hj => hln_row (fun j hj => hS.sl hj) hj
  refine (mend_Shards_spec w f k m s hs R hF hS hB hDr hDv hT hlb).mono ?_
  rintro v w1 ⟨z, len, ev, hL, ⟨h1, rfl, hS1⟩ | ⟨h1, hM, ⟨rfl, hS1, hfar⟩ | ⟨sw, G, bo, hs', rfl, lhs, hS1, hkeep, -, hG, hbo, ow⟩⟩⟩
  · exact ⟨z, _, R, [], _, hs, rfl, ⟨len, ev, hL, Or.inl ⟨h1, rfl, rfl, rfl⟩⟩, rfl, hS1, fun _ _ _ _ => rfl, Ow.nil _ _⟩
  · exact ⟨z, _, R, [], _, hs, rfl, ⟨len, ev, hL, Or.inr ⟨h1, hM, Or.inl ⟨rfl, rfl, rfl, hfar⟩⟩⟩, rfl, hS1, fun _ _ _ _ => rfl, Ow.nil _ _⟩
  · obtain ⟨p1, p2⟩ := mok_pk hM
    rw [wrL_eq (f := f) (K := k.toNat) (len := len) (R := R) (G := G) p1 (by have := mok_prm hM; omega) (fun s hs' => by obtain ⟨a1, a2⟩ := prsL_mem.1 hs'; rw [← hlr s a1]; exact (hM.hL s a1).resolve_left a2) hbo] at ow
    exact ⟨z, _, _, _, sw, hs', rfl, ⟨len, ev, hL, Or.inr ⟨h1, hM, Or.inr ⟨rfl, G, rfl, hG, rfl⟩⟩⟩, lhs, hS1, hkeep, ow⟩
end Go.Proofs.Ytbaljbadlfopgaa.Fw
