import Derived.Test.YtbaljbadlfopgaaProg
import Derived.Test.YtbaljbadlfopgaaFwTQ
import Derived.Test.YtbaljbadlfopgaaSRY1Q
import Derived.Test.YtbaljbadlfopgaaFwWQ
import Derived.Test.YtbaljbadlfopgaaSRZ3Q
set_option linter.all false
set_option linter.unusedVariables false
set_option linter.unusedSimpArgs false
set_option maxRecDepth 100000
set_option maxHeartbeats 1000000
namespace Go.Proofs.Ytbaljbadlfopgaa.Fw
open Go Go.Fw Go.Proofs
attribute [local irreducible] stepI
end Go.Proofs.Ytbaljbadlfopgaa.Fw
namespace Go.Proofs.Ytbaljbadlfopgaa.Fw
open Go Go.Fw
theorem prm_zero {f k m : Int} (hf : f = 0 ∨ f = 1) (hk : 1 ≤ k) (hm : 1 ≤ m) (hkm : k + m ≤ 256) : prm f k m = 0 := by
  unfold prm
  rw [if_neg (by omega), if_neg (by omega), if_neg (by omega), if_neg (by omega)]
theorem cnt_zero {f k m : Int} {n : Nat} (hf : f = 0 ∨ f = 1) (hk : 1 ≤ k) (hm : 1 ≤ m) (hkm : k + m ≤ 256) (hn : (n : Int) = k + m) : cnt f k m n = 0 := by
  unfold cnt
  rw [if_neg (fun h => h (prm_zero hf hk hm hkm)), if_neg (by omega)]
end Go.Proofs.Ytbaljbadlfopgaa.Fw

set_option linter.unusedVariables false
set_option linter.unusedSimpArgs false
set_option maxRecDepth 100000
set_option maxHeartbeats 1000000
namespace Go.Proofs.Ytbaljbadlfopgaa.Fw
open Go Go.Fw Go.Proofs
attribute [local irreducible] stepI

end Go.Proofs.Ytbaljbadlfopgaa.Fw
namespace Go.Proofs.Ytbaljbadlfopgaa.Fw
open Go Go.Fw
/-- What Shards is to answer: the error's number, the rows behind it, the wrong ones. -/
def ShR (f k m : Int) (L : Nat → Nat) (n : Nat) (R : Nat → List (El 8)) (e : Int) (RW : Nat → List (El 8)) (WL : List Int) : Prop :=
  ∃ (len : Nat) (ev : Bool), (cnt f k m n = 0 → Lns L n len ev) ∧
    ((wer f k m L n len ev ≠ 0 ∧ e = wer f k m L n len ev ∧ RW = R ∧ WL = []) ∨
     (wer f k m L n len ev = 0 ∧ MOk f k m L n len ∧ ((e = 190 ∧ RW = R ∧ WL = [] ∧ ∃ t, t < len ∧ farS f k.toNat L n R t) ∨
       (e = 0 ∧ ∃ G, RW = rowS f k.toNat G len ∧ (∀ t, t < len → nearS f k.toNat L n R t (G t)) ∧ WL = ((prsL L n).filter fun s => !decide (R s = rowS f k.toNat G len s)).map fun (j : Nat) => (j : Int)))))
theorem mok_len {f k m : Int} {L : Nat → Nat} {n len len' : Nat} (h : MOk f k m L n len) (h' : MOk f k m L n len') : len = len' := by
  have hnp := prsL_len L n
  have h1 := h.hn
  have h2 := h.hk
  have h3 := h.hz
  have h4 := h.hm
  have h5 := h.hlen
  obtain ⟨a1, a2⟩ := prsL_get (L := L) (n := n) (i := 0) (by omega)
  have b1 := (h.hL _ a1).resolve_left a2
  have b2 := (h'.hL _ a1).resolve_left a2
  omega
theorem rowS_congr' {f : Int} {k : Nat} {G G' : Nat → List (El 8)} {len s : Nat} (h : ∀ t, t < len → G t = G' t) : rowS f k G len s = rowS f k G' len s := by
  unfold rowS
  exact List.map_congr_left fun t ht => by rw [h t (List.mem_range.1 ht)]
theorem far_near {f : Int} {k : Nat} {L : Nat → Nat} {n : Nat} {R : Nat → List (El 8)} {t : Nat} {g : List (El 8)} (h : farS f k L n R t) (h' : nearS f k L n R t g) : False := by
  have := h g h'.1 h'.2.1
  have := h'.2.2
  omega
theorem mok_pk {f k m : Int} {L : Nat → Nat} {n len : Nat} (h : MOk f k m L n len) : n ≤ 256 ∧ k.toNat ≤ (prsL L n).length := by
  have hnp := prsL_len L n
  have h1 := h.hn
  have h2 := h.hk
  have h3 := h.hz
  have h4 := h.hm
  have h5 := h.km
  omega
theorem ShR.uniq {f k m : Int} {L : Nat → Nat} {n : Nat} {R : Nat → List (El 8)} {e e' : Int} {RW RW' : Nat → List (El 8)} {WL WL' : List Int} (h : ShR f k m L n R e RW WL) (h' : ShR f k m L n R e' RW' WL') : e = e' ∧ RW = RW' ∧ WL = WL' := by
  obtain ⟨len, ev, hL, h⟩ := h
  obtain ⟨len', ev', hL', h'⟩ := h'
  have hw := wer_uniq (f := f) (k := k) (m := m) hL hL'
  rcases h with ⟨a1, a2, a3, a4⟩ | ⟨a1, hM, a⟩ <;> rcases h' with ⟨b1, b2, b3, b4⟩ | ⟨b1, hM', b⟩
  · exact ⟨by rw [a2, b2, hw], by rw [a3, b3], by rw [a4, b4]⟩
  · exact absurd (hw.trans b1) a1
  · exact absurd (hw.symm.trans a1) b1
  obtain rfl := mok_len hM hM'
  obtain ⟨p1, p2⟩ := mok_pk hM
  rcases a with ⟨a2, a3, a4, t, ht, hf⟩ | ⟨a2, G, a3, a4, a5⟩ <;> rcases b with ⟨b2, b3, b4, t', ht', hf'⟩ | ⟨b2, G', b3, b4, b5⟩
  · exact ⟨by rw [a2, b2], by rw [a3, b3], by rw [a4, b4]⟩
  · exact (far_near hf (b4 t ht)).elim
  · exact (far_near hf' (a4 t' ht')).elim
  · have hG : ∀ t, t < len → G t = G' t := fun t ht => nearS_uniq p1 p2 (a4 t ht) (b4 t ht)
    have hR : rowS f k.toNat G len = rowS f k.toNat G' len := funext fun s => rowS_congr' hG
    exact ⟨by rw [a2, b2], by rw [a3, b3, hR], by rw [a5, b5, hR]⟩
theorem prsL_all {L : Nat → Nat} {n : Nat} (h : ∀ j, j < n → L j ≠ 0) : prsL L n = List.range n := by
  unfold prsL
  exact List.filter_eq_self.2 fun j hj => by simpa using h j (List.mem_range.1 hj)
/-- What was mended has nothing to mend. -/
theorem ShR.again {f k m : Int} {L L2 : Nat → Nat} {n : Nat} {R : Nat → List (El 8)} {e e2 : Int} {RW RW2 : Nat → List (El 8)} {WL WL2 : List Int} (h : ShR f k m L n R e RW WL) (hL0 : ∀ j, j < n → L j = (R j).length) (hL2 : ∀ j, j < n → L2 j = (RW j).length) (hLo : ∀ j, n ≤ j → L2 j = L j) (h2 : ShR f k m L2 n RW e2 RW2 WL2) : e2 = e ∧ (e ≠ 0 ∨ WL2 = []) := by
  obtain ⟨len, ev, hL, h⟩ := id h
  have same : RW = R → e2 = e ∧ WL2 = WL := fun hR => by
    subst hR
    have : L2 = L := funext fun j => by
      by_cases hj : j < n
      · rw [hL2 j hj, hL0 j hj]
      · exact hLo j (by omega)
    subst this
    obtain ⟨x1, -, x3⟩ := ShR.uniq ‹ShR f k m L2 n RW e RW WL› h2
    exact ⟨x1.symm, x3.symm⟩
  rcases h with ⟨a1, a2, a3, a4⟩ | ⟨a1, hM, ⟨a2, a3, a4, t, ht, hf⟩ | ⟨a2, G, a3, a4, a5⟩⟩
  · obtain ⟨x1, x2⟩ := same a3
    exact ⟨x1, Or.inr (x2.trans a4)⟩
  · obtain ⟨x1, x2⟩ := same a3
    exact ⟨x1, Or.inr (x2.trans a4)⟩
  have hlen := hM.hlen
  have l2 : ∀ j, j < n → L2 j = len := fun j hj => by rw [hL2 j hj, a3, rowS_len]
  have hp2 : prsL L2 n = List.range n := prsL_all fun j hj => by rw [l2 j hj]; omega
  have hpl : (prsL L2 n).length = n := by rw [hp2, List.length_range]
  have hz2 : (zis L2 n).length = 0 := by have := prsL_len L2 n; omega
  have hL' : Lns L2 n len true := ⟨⟨fun e j hj => by rw [l2 j hj, e], fun e => by
      obtain ⟨p1, p2⟩ := mok_pk hM
      have := hM.hn
      have := hM.hk
      have := hM.hm
      have := e 0 (by omega)
      rw [l2 0 (by omega)] at this
      exact this⟩, ⟨fun _ j hj => Or.inr (l2 j hj), fun _ => rfl⟩, fun _ => ⟨0, by have := hM.hn; have := hM.hk; have := hM.hm; omega, l2 0 (by have := hM.hn; have := hM.hk; have := hM.hm; omega)⟩⟩
  have hc0 : cnt f k m n = 0 := cnt_zero hM.hf hM.hk hM.hm hM.km hM.hn
  have hw : wer f k m L2 n len true = 0 := by
    unfold wer prt oddB
    have := hM.hm
    rw [if_pos hM.hf, if_neg (fun e => e hc0), if_neg (by omega), if_neg (by decide), hz2]
    have hf2 : ¬ f = 2 := by have := hM.hf; omega
    rw [decide_eq_false (fun e => hf2 e.1), if_neg (by decide), if_neg (by omega)]
  have hM2 : MOk f k m L2 n len := ⟨hM.hf, hM.hk, hM.hm, hM.km, hM.hn, hM.hlen, fun j hj => Or.inr (l2 j hj), by rw [hz2]; have := hM.hm; omega⟩
  obtain ⟨p1, p2⟩ := mok_pk hM2
  have hoff : ∀ t, t < len → offS f k.toNat L2 n RW t (G t) = [] := fun t ht => by
    have hl := offS_len (f := f) (K := k.toNat) (L := L2) (n := n) (R := RW) (t := t) (g := G t) (by omega) (by have := mok_prm hM; omega)
    refine List.eq_nil_of_length_eq_zero (hl.trans ?_)
    rw [List.length_eq_zero_iff, List.filter_eq_nil_iff]
    intro s hs
    have : nth (RW s) t = valS f k.toNat (G t) s := by
      rw [a3]
      have h9 : t < (rowS f k.toNat G len s).length := by rw [rowS_len]; exact ht
      rw [nth_get h9, rowS_get h9]
    simp [this]
  have hG : ∀ t, t < len → nearS f k.toNat L2 n RW t (G t) := fun t ht => ⟨(a4 t ht).1, (a4 t ht).2.1, by rw [hoff t ht]; exact Nat.zero_le _⟩
  have h3 : ShR f k m L2 n RW 0 (rowS f k.toNat G len) [] := ⟨len, true, fun _ => hL', Or.inr ⟨hw, hM2, Or.inr ⟨rfl, G, rfl, hG, by
    have : (prsL L2 n).filter (fun s => !decide (RW s = rowS f k.toNat G len s)) = [] := List.filter_eq_nil_iff.2 fun s _ => by rw [a3]; simp
    rw [this]; rfl⟩⟩⟩
  obtain ⟨x1, -, x3⟩ := h3.uniq h2
  exact ⟨by rw [← x1, a2], Or.inr x3.symm⟩
/-- In its place: a row that was there keeps its length. -/
theorem ShR.len {f k m : Int} {L : Nat → Nat} {n : Nat} {R : Nat → List (El 8)} {e : Int} {RW : Nat → List (El 8)} {WL : List Int} (h : ShR f k m L n R e RW WL) (hL0 : ∀ j, j < n → L j = (R j).length) {j : Nat} (hj : j < n) (hn : R j ≠ []) : (RW j).length = (R j).length := by
  obtain ⟨len, ev, hL, ⟨a1, a2, a3, a4⟩ | ⟨a1, hM, ⟨a2, a3, a4, t, ht, hf⟩ | ⟨a2, G, a3, a4, a5⟩⟩⟩ := h
  · rw [a3]
  · rw [a3]
  · rw [a3, rowS_len, ← hL0 j hj]
    have := (hM.hL j hj).resolve_left (by rw [hL0 j hj]; exact fun e => hn (List.length_eq_zero_iff.1 e))
    exact this.symm
theorem ShR.le {f k m : Int} {L : Nat → Nat} {n : Nat} {R : Nat → List (El 8)} {e : Int} {RW : Nat → List (El 8)} {WL : List Int} (h : ShR f k m L n R e RW WL) {b : Nat} (hL0 : ∀ j, j < n → L j = (R j).length) (hb : ∀ j, j < n → (R j).length ≤ b) : ∀ j, j < n → (RW j).length ≤ b := fun j hj => by
  obtain ⟨len, ev, hL, ⟨a1, a2, a3, a4⟩ | ⟨a1, hM, ⟨a2, a3, a4, t, ht, hf⟩ | ⟨a2, G, a3, a4, a5⟩⟩⟩ := h
  · rw [a3]; exact hb j hj
  · rw [a3]; exact hb j hj
  · rw [a3, rowS_len]
    obtain ⟨p1, p2⟩ := mok_pk hM
    have := hM.hk
    obtain ⟨b1, b2⟩ := prsL_get (L := L) (n := n) (i := 0) (by omega)
    rw [← (hM.hL _ b1).resolve_left b2, hL0 _ b1]
    exact hb _ b1
theorem ShR.wl {f k m : Int} {L : Nat → Nat} {n : Nat} {R : Nat → List (El 8)} {e : Int} {RW : Nat → List (El 8)} {WL : List Int} (h : ShR f k m L n R e RW WL) : WL.length ≤ n := by
  obtain ⟨len, ev, hL, ⟨a1, a2, a3, a4⟩ | ⟨a1, hM, ⟨a2, a3, a4, t, ht, hf⟩ | ⟨a2, G, a3, a4, a5⟩⟩⟩ := h
  · rw [a4]; exact Nat.zero_le _
  · rw [a4]; exact Nat.zero_le _
  · rw [a5, List.length_map]
    have := List.length_filter_le (fun s => !decide (R s = rowS f k.toNat G len s)) (prsL L n)
    have := prsL_len L n
    omega
end Go.Proofs.Ytbaljbadlfopgaa.Fw

set_option linter.unusedVariables false
set_option linter.unusedSimpArgs false
set_option maxRecDepth 100000
set_option maxHeartbeats 1000000
namespace Go.Proofs.Ytbaljbadlfopgaa.Fw
open Go Go.Fw Go.Proofs
attribute [local irreducible] stepI
def c_culletlaw19_roomy : C := .seq (.ops [⟨0,some 2,none,.mov (.c (.slice none 0 0)),[]⟩,⟨1,some 3,none,.mov (.c (.slice none 0 0)),[]⟩]) (.seq (.ops [⟨0,some 7,none,.mov (.t 0),[]⟩,⟨1,some 8,none,.len (.t 7),[]⟩,⟨2,some 9,none,.mks 25 24 [.slice none 0 0] (.t 8) (.t 8),[]⟩,⟨3,some 4,none,.mov (.t 9),[]⟩]) (.seq (.ops [⟨0,some 10,none,.mov (.t 0),[]⟩,⟨1,some 11,none,.len (.t 10),[]⟩,⟨2,some 12,none,.mks 25 24 [.slice none 0 0] (.t 11) (.t 11),[]⟩,⟨3,some 5,none,.mov (.t 12),[]⟩]) (.seq (.seq (.ops [⟨0,some 6,none,.mov (.c (.int .i64 0)),[]⟩]) (.block 0 (.loop (.seq (.seq (.ops [⟨0,some 13,none,.mov (.t 6),[]⟩,⟨1,some 14,none,.mov (.t 0),[]⟩,⟨2,some 15,none,.len (.t 14),[]⟩,⟨3,some 16,none,.bin .lss (.t 13) (.t 15),[]⟩]) (.ite (.t 16) .skip (.exit 0))) (.seq (.block 1 (.seq (.ops [⟨0,some 19,none,.mov (.t 4),[]⟩,⟨1,some 20,none,.mov (.t 6),[]⟩,⟨2,some 21,none,.bsl 5 0 [.int .u8 0] [],[]⟩,⟨3,some 22,none,.mov (.t 0),[]⟩,⟨4,some 23,none,.mov (.t 6),[]⟩,⟨5,some 24,none,.ixs 1 (.t 22) (.t 23),[]⟩,⟨6,some 25,none,.ld (.t 24),[]⟩,⟨7,some 26,none,.app 5 1 [.int .u8 0] (.t 21) (.t 25),[]⟩,⟨8,some 27,none,.bsl 5 8 [.int .u8 0] [(0,(1,.c (.int .u8 201))),(1,(1,.c (.int .u8 202))),(2,(1,.c (.int .u8 203))),(3,(1,.c (.int .u8 204))),(4,(1,.c (.int .u8 205))),(5,(1,.c (.int .u8 206))),(6,(1,.c (.int .u8 207))),(7,(1,.c (.int .u8 208)))],[]⟩,⟨9,some 28,none,.app 5 1 [.int .u8 0] (.t 26) (.t 27),[]⟩,⟨10,some 29,none,.ixs 1 (.t 19) (.t 20),[]⟩,⟨11,none,none,.st (.t 29) (.t 28),[]⟩]) (.dops [⟨0,some 30,none,.mov (.t 5),[]⟩,⟨1,some 31,none,.mov (.t 6),[]⟩,⟨2,some 32,none,.mov (.t 4),[]⟩,⟨3,some 33,none,.mov (.t 6),[]⟩,⟨4,some 34,none,.ixs 1 (.t 32) (.t 33),[]⟩,⟨5,some 35,none,.ld (.t 34),[]⟩,⟨6,some 36,none,.mov (.t 0),[]⟩,⟨7,some 37,none,.mov (.t 6),[]⟩,⟨8,some 38,none,.ixs 1 (.t 36) (.t 37),[]⟩,⟨9,some 39,none,.ld (.t 38),[]⟩,⟨10,some 40,none,.len (.t 39),[]⟩,⟨11,some 41,none,.slc 1 (.t 35) none (some (.t 40)) none,[]⟩,⟨12,some 42,none,.ixs 1 (.t 30) (.t 31),[]⟩,⟨13,none,none,.st (.t 42) (.t 41),[]⟩]))) (.ops [⟨0,some 17,none,.mov (.t 6),[]⟩,⟨1,some 18,none,.bin .add (.t 17) (.c (.int .i64 1)),[]⟩,⟨2,some 6,none,.mov (.t 18),[]⟩])))))) (.seq (.ops [⟨0,some 43,none,.mov (.t 4),[]⟩,⟨1,some 44,none,.mov (.t 5),[]⟩,⟨2,some 2,none,.mov (.t 43),[]⟩,⟨3,some 3,none,.mov (.t 44),[]⟩]) .ret))))
attribute [irreducible] c_culletlaw19_roomy
theorem run_culletlaw19_roomy {args : List Value} {w : World} {K : Value → World → Prop} (hn : args.length ≤ 45) (h : WP Try.prog c_culletlaw19_roomy (endQ [.t 2, .t 3] K) (initT args) w) : CallV Try.prog 29 args w K :=
  call_of follows Try.func29 (by kernel_rfl) (by kernel_rfl) hn h
end Go.Proofs.Ytbaljbadlfopgaa.Fw
namespace Go.Proofs.Ytbaljbadlfopgaa.Fw
open Go Go.Fw
def mk8 : List (El 8) := [en8 201, en8 202, en8 203, en8 204, en8 205, en8 206, en8 207, en8 208]
theorem mk8_at : ∀ j, (h : j < mk8.length) → ((mk8[j].v.toNat : Nat) : Int) = IntKind.u8.wrap (IntKind.i64.wrap (201 + (j : Int)))
  | 0, _ => rfl
  | 1, _ => rfl
  | 2, _ => rfl
  | 3, _ => rfl
  | 4, _ => rfl
  | 5, _ => rfl
  | 6, _ => rfl
  | 7, _ => rfl
  | j + 8, h => absurd h (by show ¬ j + 8 < 8; omega)
theorem culletlaw19_roomy_spec (w : World) (s : Value) (hs : List Hd) (R : Nat → List (El 8)) (h : Sl w s hs) (hr : ∀ j (hj : j < hs.length), Sl w (Cell.v hs[j]) (R j)) (hn : hs.length ≤ 1048576) (hl : ∀ j, j < hs.length → (R j).length ≤ 1048576) :
    CallV Try.prog 29 [s] w fun v w' => RowKit.Below w.heap.size w w' ∧ ∃ (vw vp : Value) (WH PH : List Hd) (z : Nat) (E : List (Value × List (El 8))), v = .tuple #[vw, vp] ∧ WH.length = hs.length ∧ PH.length = hs.length ∧ w.heap.size ≤ z ∧ (∀ b, Fw.blk vw = some b → b < z) ∧ (∀ b, Fw.blk vp = some b → b < z) ∧ z ≤ w'.heap.size ∧ Ow w.heap.size w' vw WH ∧ Ow w.heap.size w' vp PH ∧ Lst z E w' ∧ E.length = hs.length ∧
      (∀ j (hj : j < hs.length), ∃ e, E[j]? = some (e, R j ++ mk8) ∧ Hj WH j = e ∧ Hj PH j = Fw.sub e 0 (R j).length) := by
  refine run_culletlaw19_roomy (by simp) ?_
  simp only [c_culletlaw19_roomy, WS, ↓reduceIte, Nat.reduceEqDiff, reduceCtorEq, h.Xlen]
  refine X_mks (x := hdn) (n := hs.length) (by simp only [maxBytes]; omega) (by omega) fun vw w1 ow hB1 => ?_
  have h1 := h.up hB1
  simp (maxSteps := 1000000) (disch := omega) only [WS, ↓reduceIte, Nat.reduceEqDiff, reduceCtorEq, AS, h1.Xlen]
  refine X_mks (x := hdn) (n := hs.length) (by simp only [maxBytes]; omega) (by omega) fun vp w2 op hB2 => ?_
  have hbw : ∀ b, Fw.blk vw = some b → b < w1.heap.size := fun b hb => (ow.blk b hb).2
  have ow := ow.up hB2
  have B := hB1.trans (hB2.mono hB1.size)
  have hbp := op.blk
  have z1 := hB1.size
  have z2 := hB2.size
  simp (maxSteps := 1000000) (disch := omega) only [WS, ↓reduceIte, Nat.reduceEqDiff, reduceCtorEq, AS]
  refine loop_of (fun t w' => t 0 = s ∧ t 4 = vw ∧ t 5 = vp ∧ RowKit.Below w.heap.size w w' ∧ w2.heap.size ≤ w'.heap.size ∧ ∃ (i : Nat) (WH PH : List Hd) (E : List (Value × List (El 8))), t 6 = .int .i64 (i : Int) ∧ i ≤ hs.length ∧ WH.length = hs.length ∧ PH.length = hs.length ∧ E.length = i ∧ Ow w.heap.size w' vw WH ∧ Ow w1.heap.size w' vp PH ∧ Lst w2.heap.size E w' ∧ (∀ j, j < i → ∃ e, E[j]? = some (e, R j ++ mk8) ∧ Hj WH j = e ∧ Hj PH j = Fw.sub e 0 (R j).length)) (fun t _ => hs.length - (toI (t 6)).toNat)
    ⟨by simp only [WS, ↓reduceIte, Nat.reduceEqDiff, reduceCtorEq], by simp only [WS, ↓reduceIte, Nat.reduceEqDiff, reduceCtorEq], by simp only [WS, ↓reduceIte, Nat.reduceEqDiff, reduceCtorEq], B, Nat.le_refl _, 0, _, _, [], by simp only [WS, ↓reduceIte, Nat.reduceEqDiff, reduceCtorEq]; rfl, by omega, List.length_replicate .., List.length_replicate .., rfl, ow, op, Lst.nil _ _, fun j hj => absurd hj (Nat.not_lt_zero _)⟩ ?_
  clear B ow op hB1 hB2 h1
  rintro t w3 ⟨t0, t4, t5, B, z3, i, WH, PH, E, t6, hi, lW, lP, lE, ow, op, hL, hE⟩
  have h' := h.up B
  by_cases hil : i < hs.length
  rotate_left
  · have eil : i = hs.length := by omega
    simp (maxSteps := 1000000) (disch := omega) only [WS, ↓reduceIte, Nat.reduceEqDiff, reduceCtorEq, AS, t0, t4, t5, t6, h'.Xlen]
    exact ⟨B, vw, vp, WH, PH, w2.heap.size, E, rfl, lW, lP, by omega, fun b hb => by have := hbw b hb; omega, fun b hb => (hbp b hb).2, z3, ow, op.mono z1, hL, by omega, fun j hj => hE j (by omega)⟩
  have hr' := (hr i hil).up B
  have hli := hl i hil
  simp (maxSteps := 1000000) (disch := omega) only [WS, ↓reduceIte, Nat.reduceEqDiff, reduceCtorEq, AS, t0, t4, t5, t6, h'.Xlen]
  refine X_bslE fun p0 w4 oe hB0 => ?_
  simp (maxSteps := 1000000) (disch := omega) only [WS, ↓reduceIte, Nat.reduceEqDiff, reduceCtorEq, AS, t0, t4, t5, t6, (h'.up hB0).Xix hil, (h'.up hB0).Xld hil, cell_hd]
  refine oe.Xapp (show Sl w4 (Value.slice hs[i].a hs[i].n hs[i].c) (R i) from hr'.up hB0) hB0 hB0.size (by simp only [maxBytes]; omega) (by decide) (by omega) fun c1 w5 oc hB5 _ => ?_
  simp (maxSteps := 1000000) (disch := omega) only [WS, ↓reduceIte, Nat.reduceEqDiff, reduceCtorEq, AS, t0, t4, t5, t6]
  refine X_bsl (zs := mk8) (by rfl) (by rfl) fun m1 w6 om hB6 => ?_
  have oc := oc.up hB6
  have hB6 := hB5.trans (hB6.mono hB5.size)
  simp (maxSteps := 1000000) (disch := omega) only [WS, ↓reduceIte, Nat.reduceEqDiff, reduceCtorEq, AS, t0, t4, t5, t6]
  refine Ow.Xapp oc om.sl hB6.size (by have : mk8.length = 8 := rfl; simp only [maxBytes]; omega) (by have : mk8.length = 8 := rfl; omega) fun c2 w7 oc2 hg7 _ => ?_
  have hB7 := Below.app hB6 hB6.size hg7 fun b hb => (oc.blk b hb).1
  have B7 := B.trans (hB7.mono B.size)
  have ow := ow.up hB7
  have op := op.up hB7
  have hL := hL.push hB7 z3 oc2
  have z7 := hB7.size
  have lm : mk8.length = 8 := rfl
  have hcv : Cell.v (hd c2) = c2 := oc2.sl.hd.1
  have iW : i < WH.length := by omega
  have iP : i < PH.length := by omega
  clear hB0 hB5 hB6 hg7 oc om oe hr'
  simp (maxSteps := 1000000) (disch := omega) only [WS, ↓reduceIte, Nat.reduceEqDiff, reduceCtorEq, AS, t0, t4, t5, t6, ow.sl.Xix iW]
  rw [← hcv]
  refine Ow.Xst ow iW (hd c2) fun w8 ow2 hg => ?_
  obtain ⟨bw, hbw0, -⟩ := ow.sl.blk_lt (by rintro rfl; simp at iW)
  have hbw1 := hbw bw hbw0
  have B8 := Below.app B7 B7.size hg fun b hb => (ow.blk b hb).1
  rw [hbw0] at hg
  have op := op.gr' hg fun c hc e => by cases hc; have := (op.blk _ e).1; omega
  have hL := hL.grown (by omega) hg
  have z8 := hg.size
  have h8 := h.up B8
  simp (maxSteps := 1000000) (disch := omega) only [WS, ↓reduceIte, Nat.reduceEqDiff, reduceCtorEq, AS, t0, t4, t5, t6]
  refine WP_dops ?_
  have bd := bel_drew w8
  have B9 := B8.trans (bd.mono B8.size)
  have ow2 := ow2.up bd
  have op := op.up bd
  have hL := hL.up bd
  have z9 := bd.size
  have h9 := h.up B9
  clear bd h8
  have iW2 : i < (WH.set i (hd c2)).length := by rw [List.length_set]; exact iW
  have eW2 : (WH.set i (hd c2))[i] = hd c2 := List.getElem_set_self ..
  have hx : hs[i].n = (R i).length := by rw [← hln_get hs hil]; exact hln_row hr hil
  have hLl : ∃ e, (E ++ [(c2, R i ++ mk8)])[i]? = some (e, R i ++ mk8) ∧ c2 = e := ⟨c2, by rw [List.getElem?_append_right (by omega), lE, Nat.sub_self]; rfl, rfl⟩
  have oc9 : Ow w2.heap.size w8.drew c2 (R i ++ mk8) := hL.ow i _ (by obtain ⟨e, h1, h2⟩ := hLl; rw [← h2] at h1; exact h1)
  have eS : ∀ (d : Option Nat) (l : List D) (Q : T → World → Prop) (n_ : Nat) (u_ : List Nat) (rs_ : List RN) (es_ : List EN) (t : T) (w' : World), XE Try.prog n_ (.slc 1 (.c c2) none (some (.c (.int .i64 ((R i).length : Int)))) none) u_ d l Q rs_ es_ t w' = WE Try.prog Q l rs_ es_ (put t d (Fw.sub c2 0 (R i).length)) w' := fun d l Q n_ u_ rs_ es_ t w' => oc9.sl.EslcHi (k' := .i64) (hi := (R i).length) (by rw [List.length_append]; omega) _ d l Q t w'
  simp (maxSteps := 1000000) (disch := omega) only [ES, List.mem_cons, List.not_mem_nil, implies_true, forall_const, WS, ↓reduceIte, Nat.reduceEqDiff, reduceCtorEq, AS, t0, t4, t5, t6, ow2.sl.Eix iW2, ow2.sl.Eld iW2, eW2, hcv, h9.Eix hil, h9.Eld hil, cell_hd, E_lenS, hx, eS, op.sl.Eix iP]
  have hsub : ∃ x : Hd, Cell.v x = Fw.sub c2 0 (R i).length := ⟨hd _, (oc9.sl.sub (lo := 0) (hi := (R i).length) (Nat.zero_le _) (by rw [List.length_append]; omega)).hd.1⟩
  obtain ⟨x, hx2⟩ := hsub
  rw [← hx2]
  refine Ow.Est op iP x fun w10 op2 hg => ?_
  obtain ⟨bp, hbp0, -⟩ := op.sl.blk_lt (by rintro rfl; simp at iP)
  have hbp1 := hbp bp hbp0
  have B10 := Below.app B9 B9.size hg fun b hb => by have := (op.blk b hb).1; omega
  rw [hbp0] at hg
  have ow2 := ow2.gr' hg fun c hc e => by cases hc; have := hbw _ e; omega
  have hL := hL.grown (by omega) hg
  have z10 := hg.size
  simp (maxSteps := 1000000) (disch := omega) only [ES, List.mem_cons, List.not_mem_nil, implies_true, forall_const, WS, ↓reduceIte, Nat.reduceEqDiff, reduceCtorEq, AS, t0, t4, t5, t6]
  refine ⟨⟨B10, by omega, i + 1, _, _, _, rfl, by omega, by rw [List.length_set]; exact lW, by rw [List.length_set]; exact lP, by rw [List.length_append, lE]; rfl, ow2, op2, hL, fun j hj => ?_⟩, by omega⟩
  rw [Hj_set iW, Hj_set iP]
  by_cases e : j = i
  · subst e
    rw [if_pos rfl, if_pos rfl]
    obtain ⟨e, h1, h2⟩ := hLl
    exact ⟨e, h1, by rw [hcv, h2], by rw [hx2, h2]⟩
  · rw [if_neg e, if_neg e]
    obtain ⟨e1, a1, a2, a3⟩ := hE j (by omega)
    exact ⟨e1, by rw [List.getElem?_append_left (by omega)]; exact a1, a2, a3⟩
end Go.Proofs.Ytbaljbadlfopgaa.Fw

set_option linter.unusedVariables false
set_option linter.unusedSimpArgs false
set_option maxRecDepth 100000
set_option maxHeartbeats 1000000
namespace Go.Proofs.Ytbaljbadlfopgaa.Fw
open Go Go.Fw Go.Proofs
attribute [local irreducible] stepI
def c_culletlaw19_MendShards : C := .seq (.ops [⟨0,some 1,none,.box 48 (.t 0),[]⟩,⟨1,some 2,none,.mov (.c (.bool false)),[]⟩]) (.seq (.seq (.ops [⟨0,some 15,none,.call (.c (.func (.func 13) #[] #[])) [],[]⟩,⟨1,some 16,none,.un .not (.t 15),[]⟩]) (.ite (.t 16) (.seq (.ops [⟨0,some 2,none,.mov (.c (.bool false)),[]⟩]) .ret) .skip)) (.seq (.seq (.ops [⟨0,some 17,none,.ldn 4 (.t 1),[]⟩,⟨1,some 18,none,.call (.c (.func (.func 22) #[] #[])) [.t 17],[]⟩,⟨2,some 19,none,.bin .gtr (.t 18) (.c (.int .i64 4194304)),[]⟩]) (.ite (.t 19) (.seq (.ops [⟨0,some 2,none,.mov (.c (.bool true)),[]⟩]) .ret) .skip)) (.seq (.ops [⟨0,some 21,none,.fad 0 (.t 1),[]⟩,⟨1,some 22,none,.ld (.t 21),[]⟩,⟨2,some 23,none,.fad 1 (.t 1),[]⟩,⟨3,some 24,none,.ld (.t 23),[]⟩,⟨4,some 25,none,.fad 2 (.t 1),[]⟩,⟨5,some 26,none,.ld (.t 25),[]⟩,⟨6,some 27,none,.fad 3 (.t 1),[]⟩,⟨7,some 28,none,.ld (.t 27),[]⟩,⟨8,some 29,none,.call (.c (.func (.func 28) #[] #[])) [.t 22,.t 24,.t 26,.t 28],[]⟩,⟨9,some 20,none,.mov (.t 29),[]⟩,⟨10,some 30,none,.ext (.t 20) 0,[]⟩,⟨11,some 31,none,.ext (.t 20) 1,[]⟩,⟨12,some 32,none,.ext (.t 20) 2,[]⟩,⟨13,some 3,none,.mov (.t 30),[]⟩,⟨14,some 4,none,.mov (.t 31),[]⟩,⟨15,some 5,none,.mov (.t 32),[]⟩]) (.seq (.ops [⟨0,some 34,none,.fad 3 (.t 1),[]⟩,⟨1,some 35,none,.ld (.t 34),[]⟩,⟨2,some 36,none,.call (.c (.func (.func 29) #[] #[])) [.t 35],[]⟩,⟨3,some 33,none,.mov (.t 36),[]⟩,⟨4,some 37,none,.ext (.t 33) 0,[]⟩,⟨5,some 38,none,.ext (.t 33) 1,[]⟩,⟨6,some 6,none,.mov (.t 37),[]⟩,⟨7,some 7,none,.mov (.t 38),[]⟩]) (.seq (.ops [⟨0,some 39,none,.bsl 25 0 [.slice none 0 0] [],[]⟩,⟨1,some 40,none,.mov (.t 7),[]⟩,⟨2,some 41,none,.app 25 24 [.slice none 0 0] (.t 39) (.t 40),[]⟩,⟨3,some 8,none,.mov (.t 41),[]⟩]) (.seq (.ops [⟨0,some 43,none,.fad 0 (.t 1),[]⟩,⟨1,some 44,none,.ld (.t 43),[]⟩,⟨2,some 45,none,.fad 1 (.t 1),[]⟩,⟨3,some 46,none,.ld (.t 45),[]⟩,⟨4,some 47,none,.fad 2 (.t 1),[]⟩,⟨5,some 48,none,.ld (.t 47),[]⟩,⟨6,some 49,none,.mov (.t 8),[]⟩,⟨7,some 50,none,.call (.c (.func (.func 21) #[] #[])) [.t 44,.t 46,.t 48,.t 49],[]⟩,⟨8,some 42,none,.mov (.t 50),[]⟩,⟨9,some 51,none,.ext (.t 42) 0,[]⟩,⟨10,some 52,none,.ext (.t 42) 1,[]⟩,⟨11,some 9,none,.mov (.t 51),[]⟩,⟨12,some 10,none,.mov (.t 52),[]⟩]) (.seq (.seq (.ops [⟨0,some 53,none,.mov (.t 10),[]⟩,⟨1,some 54,none,.mov (.t 5),[]⟩,⟨2,some 55,none,.bin .neq (.t 53) (.t 54),[]⟩,⟨3,some 56,none,.mov (.t 55),[]⟩,⟨4,some 57,(some (56,false)),.mov (.t 9),[]⟩,⟨5,some 58,(some (56,false)),.mov (.t 4),[]⟩,⟨6,some 59,(some (56,false)),.call (.c (.func (.func 20) #[] #[])) [.t 57,.t 58],[]⟩,⟨7,some 60,(some (56,false)),.un .not (.t 59),[]⟩,⟨8,some 61,none,.pick (.t 56) (.c (.bool true)) (.t 60),[]⟩,⟨9,some 62,none,.mov (.t 61),[]⟩,⟨10,some 63,(some (62,false)),.mov (.t 8),[]⟩,⟨11,some 64,(some (62,false)),.fad 3 (.t 1),[]⟩,⟨12,some 65,(some (62,false)),.ld (.t 64),[]⟩,⟨13,some 66,(some (62,false)),.call (.c (.func (.func 25) #[] #[])) [.t 63,.t 65],[]⟩,⟨14,some 67,(some (62,false)),.un .not (.t 66),[]⟩,⟨15,some 68,none,.pick (.t 62) (.c (.bool true)) (.t 67),[]⟩]) (.ite (.t 68) (.seq (.ops [⟨0,some 2,none,.mov (.c (.bool false)),[]⟩]) .ret) .skip)) (.seq (.ops [⟨0,some 70,none,.fad 0 (.t 1),[]⟩,⟨1,some 71,none,.ld (.t 70),[]⟩,⟨2,some 72,none,.fad 1 (.t 1),[]⟩,⟨3,some 73,none,.ld (.t 72),[]⟩,⟨4,some 74,none,.fad 2 (.t 1),[]⟩,⟨5,some 75,none,.ld (.t 74),[]⟩,⟨6,some 76,none,.mov (.t 8),[]⟩,⟨7,some 77,none,.call (.c (.func (.func 24) #[] #[])) [.t 71,.t 73,.t 75,.t 76],[]⟩,⟨8,some 69,none,.mov (.t 77),[]⟩,⟨9,some 78,none,.ext (.t 69) 0,[]⟩,⟨10,some 79,none,.ext (.t 69) 1,[]⟩,⟨11,some 11,none,.mov (.t 78),[]⟩,⟨12,some 10,none,.mov (.t 79),[]⟩]) (.seq (.seq (.ops [⟨0,some 80,none,.mov (.t 10),[]⟩,⟨1,some 81,none,.mov (.t 5),[]⟩,⟨2,some 82,none,.bin .neq (.t 80) (.t 81),[]⟩,⟨3,some 83,none,.mov (.t 82),[]⟩,⟨4,some 84,(some (83,false)),.mov (.t 11),[]⟩,⟨5,some 85,(some (83,false)),.mov (.t 4),[]⟩,⟨6,some 86,(some (83,false)),.call (.c (.func (.func 20) #[] #[])) [.t 84,.t 85],[]⟩,⟨7,some 87,(some (83,false)),.un .not (.t 86),[]⟩,⟨8,some 88,none,.pick (.t 83) (.c (.bool true)) (.t 87),[]⟩,⟨9,some 89,none,.mov (.t 88),[]⟩,⟨10,some 90,(some (89,false)),.mov (.t 8),[]⟩,⟨11,some 91,(some (89,false)),.mov (.t 3),[]⟩,⟨12,some 92,(some (89,false)),.call (.c (.func (.func 25) #[] #[])) [.t 90,.t 91],[]⟩,⟨13,some 93,(some (89,false)),.un .not (.t 92),[]⟩,⟨14,some 94,none,.pick (.t 89) (.c (.bool true)) (.t 93),[]⟩]) (.ite (.t 94) (.seq (.ops [⟨0,some 2,none,.mov (.c (.bool false)),[]⟩]) .ret) .skip)) (.seq (.seq (.ops [⟨0,some 12,none,.mov (.c (.int .i64 0)),[]⟩]) (.block 0 (.loop (.seq (.seq (.ops [⟨0,some 95,none,.mov (.t 12),[]⟩,⟨1,some 96,none,.mov (.t 7),[]⟩,⟨2,some 97,none,.len (.t 96),[]⟩,⟨3,some 98,none,.bin .lss (.t 95) (.t 97),[]⟩]) (.ite (.t 98) .skip (.exit 0))) (.seq (.block 1 (.seq (.seq (.ops [⟨0,some 13,none,.mov (.c (.int .i64 0)),[]⟩]) (.block 2 (.loop (.seq (.seq (.ops [⟨0,some 101,none,.mov (.t 13),[]⟩,⟨1,some 102,none,.bin .lss (.t 101) (.c (.int .i64 8)),[]⟩]) (.ite (.t 102) .skip (.exit 2))) (.seq (.block 3 (.seq (.dops [⟨0,some 105,none,.mov (.t 6),[]⟩,⟨1,some 106,none,.mov (.t 12),[]⟩,⟨2,some 107,none,.ixs 1 (.t 105) (.t 106),[]⟩,⟨3,some 108,none,.ld (.t 107),[]⟩,⟨4,some 109,none,.mov (.t 7),[]⟩,⟨5,some 110,none,.mov (.t 12),[]⟩,⟨6,some 111,none,.ixs 1 (.t 109) (.t 110),[]⟩,⟨7,some 112,none,.ld (.t 111),[]⟩,⟨8,some 113,none,.len (.t 112),[]⟩,⟨9,some 114,none,.mov (.t 13),[]⟩,⟨10,some 115,none,.bin .add (.t 113) (.t 114),[]⟩,⟨11,some 116,none,.ixs 1 (.t 108) (.t 115),[]⟩,⟨12,some 117,none,.ld (.t 116),[]⟩,⟨13,some 118,none,.mov (.t 13),[]⟩,⟨14,some 119,none,.bin .add (.c (.int .i64 201)) (.t 118),[]⟩,⟨15,some 120,none,.cnv .u8 (.t 119),[]⟩,⟨16,some 121,none,.bin .neq (.t 117) (.t 120),[]⟩]) (.ite (.t 121) (.seq (.ops [⟨0,some 2,none,.mov (.c (.bool false)),[]⟩]) .ret) .skip))) (.ops [⟨0,some 103,none,.mov (.t 13),[]⟩,⟨1,some 104,none,.bin .add (.t 103) (.c (.int .i64 1)),[]⟩,⟨2,some 13,none,.mov (.t 104),[]⟩])))))) (.seq (.dops [⟨0,some 122,none,.mov (.t 7),[]⟩,⟨1,some 123,none,.mov (.t 12),[]⟩,⟨2,some 124,none,.ixs 1 (.t 122) (.t 123),[]⟩,⟨3,some 125,none,.ld (.t 124),[]⟩,⟨4,some 126,none,.len (.t 125),[]⟩,⟨5,some 127,none,.bin .gtr (.t 126) (.c (.int .i64 0)),[]⟩,⟨6,some 128,none,.mov (.t 127),[]⟩,⟨7,some 129,(some (128,true)),.mov (.t 7),[]⟩,⟨8,some 130,(some (128,true)),.mov (.t 12),[]⟩,⟨9,some 131,(some (128,true)),.ixs 1 (.t 129) (.t 130),[]⟩,⟨10,some 132,(some (128,true)),.ld (.t 131),[]⟩,⟨11,some 133,(some (128,true)),.mov (.t 3),[]⟩,⟨12,some 134,(some (128,true)),.mov (.t 12),[]⟩,⟨13,some 135,(some (128,true)),.ixs 1 (.t 133) (.t 134),[]⟩,⟨14,some 136,(some (128,true)),.ld (.t 135),[]⟩,⟨15,some 137,(some (128,true)),.call (.c (.func (.func 17) #[] #[])) [.t 132,.t 136],[]⟩,⟨16,some 138,(some (128,true)),.un .not (.t 137),[]⟩,⟨17,some 139,none,.pick (.t 128) (.t 138) (.c (.bool false)),[]⟩]) (.ite (.t 139) (.seq (.ops [⟨0,some 2,none,.mov (.c (.bool false)),[]⟩]) .ret) .skip)))) (.ops [⟨0,some 99,none,.mov (.t 12),[]⟩,⟨1,some 100,none,.bin .add (.t 99) (.c (.int .i64 1)),[]⟩,⟨2,some 12,none,.mov (.t 100),[]⟩])))))) (.seq (.ops [⟨0,some 141,none,.fad 0 (.t 1),[]⟩,⟨1,some 142,none,.ld (.t 141),[]⟩,⟨2,some 143,none,.fad 1 (.t 1),[]⟩,⟨3,some 144,none,.ld (.t 143),[]⟩,⟨4,some 145,none,.fad 2 (.t 1),[]⟩,⟨5,some 146,none,.ld (.t 145),[]⟩,⟨6,some 147,none,.mov (.t 8),[]⟩,⟨7,some 148,none,.call (.c (.func (.func 21) #[] #[])) [.t 142,.t 144,.t 146,.t 147],[]⟩,⟨8,some 140,none,.mov (.t 148),[]⟩,⟨9,some 149,none,.ext (.t 140) 0,[]⟩,⟨10,some 150,none,.ext (.t 140) 1,[]⟩,⟨11,some 14,none,.mov (.t 149),[]⟩,⟨12,some 10,none,.mov (.t 150),[]⟩]) (.seq (.ops [⟨0,some 151,none,.mov (.t 10),[]⟩,⟨1,some 152,none,.mov (.t 5),[]⟩,⟨2,some 153,none,.bin .eql (.t 151) (.t 152),[]⟩,⟨3,some 154,none,.mov (.t 153),[]⟩,⟨4,some 155,(some (154,true)),.mov (.t 5),[]⟩,⟨5,some 156,(some (154,true)),.bin .neq (.t 155) (.c (.int .i64 0)),[]⟩,⟨6,some 157,(some (154,true)),.mov (.t 156),[]⟩,⟨7,some 158,(some (157,false)),.mov (.t 14),[]⟩,⟨8,some 159,(some (157,false)),.len (.t 158),[]⟩,⟨9,some 160,(some (157,false)),.bin .eql (.t 159) (.c (.int .i64 0)),[]⟩,⟨10,some 161,(some (154,true)),.pick (.t 157) (.c (.bool true)) (.t 160),[]⟩,⟨11,some 162,none,.pick (.t 154) (.t 161) (.c (.bool false)),[]⟩,⟨12,some 2,none,.mov (.t 162),[]⟩]) .ret))))))))))))
attribute [irreducible] c_culletlaw19_MendShards
theorem run_culletlaw19_MendShards {args : List Value} {w : World} {K : Value → World → Prop} (hn : args.length ≤ 163) (h : WP Try.prog c_culletlaw19_MendShards (endQ [.t 2] K) (initT args) w) : CallV Try.prog 7 args w K :=
  call_of follows Try.func7 (by kernel_rfl) (by kernel_rfl) hn h
end Go.Proofs.Ytbaljbadlfopgaa.Fw
namespace Go.Proofs.Ytbaljbadlfopgaa.Fw
open Go Go.Fw
theorem mend_Find_R (w : World) (f k m : Int) (s : Value) (hs : List Hd) (R : Nat → List (El 8)) (h : Sl w s hs) (hr : ∀ j (hj : j < hs.length), Sl w (Cell.v hs[j]) (R j)) (hlb : ∀ j, hln hs j ≤ 1099511627776) :
    CallV Try.prog 21 [.int .i64 f, .int .i64 k, .int .i64 m, s] w fun v w' => RowKit.Below w.heap.size w w' ∧ ∃ (e : Int) (RW : Nat → List (El 8)) (WL : List Int) (sw : Value), v = .tuple #[sw, .int .i64 e] ∧ ShR f k m (hln hs) hs.length R e RW WL ∧ Ow w.heap.size w' sw WL := by
  have hlr : ∀ j, j < hs.length → hln hs j = (R j).length := fun j hj => hln_row hr hj
  refine (mend_Find_spec w f k m s hs R h hr hlb).mono ?_
  rintro v w1 ⟨B, len, ev, hL, ⟨h1, rfl⟩ | ⟨h1, hM, ⟨rfl, hfar⟩ | ⟨sw, G, bo, rfl, hG, hbo, ow⟩⟩⟩
  · exact ⟨B, _, R, [], _, rfl, ⟨len, ev, hL, Or.inl ⟨h1, rfl, rfl, rfl⟩⟩, Ow.nil _ _⟩
  · exact ⟨B, _, R, [], _, rfl, ⟨len, ev, hL, Or.inr ⟨h1, hM, Or.inl ⟨rfl, rfl, rfl, hfar⟩⟩⟩, Ow.nil _ _⟩
  · obtain ⟨p1, p2⟩ := mok_pk hM
    rw [wrL_eq (f := f) (K := k.toNat) (len := len) (R := R) (G := G) p1 (by have := mok_prm hM; omega) (fun s hs' => by obtain ⟨a1, a2⟩ := prsL_mem.1 hs'; rw [← hlr s a1]; exact (hM.hL s a1).resolve_left a2) hbo] at ow
    exact ⟨B, _, _, _, sw, rfl, ⟨len, ev, hL, Or.inr ⟨h1, hM, Or.inr ⟨rfl, G, rfl, hG, rfl⟩⟩⟩, ow⟩
theorem mend_Shards_R {B : Nat} {Fr : World → Prop} {Df : Nat → Prop} {Tm : Nat → List (El 8)} (w : World) (f k m : Int) (s : Value) (hs : List Hd) (R : Nat → List (El 8)) (hF : Frm Fr Df) (hS : ShM B Fr Tm s hs R w) (hB : B ≤ w.heap.size) (hDr : ∀ j (hj : j < hs.length) b, Fw.blk (Cell.v hs[j]) = some b → R j ≠ [] → Df b) (hDv : ∀ b, Fw.blk s = some b → Df b) (hT : ∀ j, R j = [] → Tm j = []) (hlb : ∀ j, hln hs j ≤ 1099511627776) :
    CallV Try.prog 24 [.int .i64 f, .int .i64 k, .int .i64 m, s] w fun v w' => w.heap.size ≤ w'.heap.size ∧ ∃ (e : Int) (RW : Nat → List (El 8)) (WL : List Int) (sw : Value) (hs' : List Hd), v = .tuple #[sw, .int .i64 e] ∧ ShR f k m (hln hs) hs.length R e RW WL ∧ hs'.length = hs.length ∧ ShM B Fr Tm s hs' RW w' ∧ (∀ j (hj : j < hs.length) (hj' : j < hs'.length), R j ≠ [] → hs'[j] = hs[j]) ∧ Ow w.heap.size w' sw WL := by
  have hlr : ∀ j, j < hs.length → hln hs j = (R j).length := fun j hj => hln_row (fun j hj => hS.sl hj) hj
  refine (mend_Shards_spec w f k m s hs R hF hS hB hDr hDv hT hlb).mono ?_
  rintro v w1 ⟨z, len, ev, hL, ⟨h1, rfl, hS1⟩ | ⟨h1, hM, ⟨rfl, hS1, hfar⟩ | ⟨sw, G, bo, hs', rfl, lhs, hS1, hkeep, -, hG, hbo, ow⟩⟩⟩
  · exact ⟨z, _, R, [], _, hs, rfl, ⟨len, ev, hL, Or.inl ⟨h1, rfl, rfl, rfl⟩⟩, rfl, hS1, fun _ _ _ _ => rfl, Ow.nil _ _⟩
  · exact ⟨z, _, R, [], _, hs, rfl, ⟨len, ev, hL, Or.inr ⟨h1, hM, Or.inl ⟨rfl, rfl, rfl, hfar⟩⟩⟩, rfl, hS1, fun _ _ _ _ => rfl, Ow.nil _ _⟩
  · obtain ⟨p1, p2⟩ := mok_pk hM
    rw [wrL_eq (f := f) (K := k.toNat) (len := len) (R := R) (G := G) p1 (by have := mok_prm hM; omega) (fun s hs' => by obtain ⟨a1, a2⟩ := prsL_mem.1 hs'; rw [← hlr s a1]; exact (hM.hL s a1).resolve_left a2) hbo] at ow
    exact ⟨z, _, _, _, sw, hs', rfl, ⟨len, ev, hL, Or.inr ⟨h1, hM, Or.inr ⟨rfl, G, rfl, hG, rfl⟩⟩⟩, lhs, hS1, hkeep, ow⟩
theorem culletref19_Shards_R (w : World) (f k m : Int) (s : Value) (hs : List Hd) (R : Nat → List (El 8)) (h : Sl w s hs) (hr : ∀ j (hj : j < hs.length), Sl w (Cell.v hs[j]) (R j)) (hn : hs.length ≤ 1048576) (hl : ∀ j, j < hs.length → (R j).length ≤ 1048576) :
    CallV Try.prog 28 [.int .i64 f, .int .i64 k, .int .i64 m, s] w fun v w' => RowKit.Below w.heap.size w w' ∧ ∃ (e : Int) (RW : Nat → List (El 8)) (WL : List Int) (so sw : Value) (hs' : List Hd), v = .tuple #[so, sw, .int .i64 e] ∧ ShR f k m (hln hs) hs.length R e RW WL ∧ hs'.length = hs.length ∧ ShM w.heap.size (fun _ => True) (fun _ => []) so hs' RW w' ∧ Ow w.heap.size w' sw WL := by
  refine (culletref19_Shards_spec w f k m s hs R h hr hn hl).mono ?_
  rintro v w1 ⟨B, len, ev, so, hs', lhs, hL, ⟨h1, rfl, hS1⟩ | ⟨h1, hM, ⟨rfl, hS1, hfar⟩ | ⟨sw, G, rfl, hS1, hG, ow⟩⟩⟩
  · exact ⟨B, _, R, [], so, _, hs', rfl, ⟨len, ev, hL, Or.inl ⟨h1, rfl, rfl, rfl⟩⟩, lhs, hS1, Ow.nil _ _⟩
  · exact ⟨B, _, R, [], so, _, hs', rfl, ⟨len, ev, hL, Or.inr ⟨h1, hM, Or.inl ⟨rfl, rfl, rfl, hfar⟩⟩⟩, lhs, hS1, Ow.nil _ _⟩
  · exact ⟨B, _, _, _, so, sw, hs', rfl, ⟨len, ev, hL, Or.inr ⟨h1, hM, Or.inr ⟨rfl, G, rfl, hG, rfl⟩⟩⟩, lhs, hS1, ow⟩
theorem sub_whole (b n cap k j : Nat) (h : j = n) : Fw.sub (Fw.sub (.slice (some ⟨b, 0, none⟩) n cap) 0 k) 0 j = .slice (some ⟨b, 0, none⟩) n cap := by
  subst h
  rw [sub0_eq, sub0_eq]
theorem sub0_blk (s : Value) {α : Type} [Cell α] {B : Nat} {w : World} {l : List α} (h : Ow B w s l) (hl : l ≠ []) (k : Nat) : Fw.blk (Fw.sub s 0 k) = Fw.blk s := by
  rcases h with ⟨_, h0⟩ | ⟨b, cap, rest, rfl, h1, hc, hr⟩
  · exact absurd h0 hl
  · rw [sub0_eq]; rfl
theorem sub0_n (s : Value) {α : Type} [Cell α] {B : Nat} {w : World} {l : List α} (h : Ow B w s l) (hl : l ≠ []) (k : Nat) {x : Hd} (hx : Cell.v x = Fw.sub s 0 k) : x.n = k := by
  rcases h with ⟨_, h0⟩ | ⟨b, cap, rest, rfl, h1, hc, hr⟩
  · exact absurd h0 hl
  · rw [sub0_eq] at hx
    injection hx
theorem mk8_len : mk8.length = 8 := rfl
theorem frmP (w : World) (n : Nat) (z : Nat) (vw vp : Value) (WH PH : List Hd) (R : Nat → List (El 8)) : Frm (fun w' => RowKit.Below w.heap.size w w' ∧ Ow w.heap.size w' vw WH ∧ Ow w.heap.size w' vp PH ∧ ∀ j, j < n → R j = [] → Ow z w' (Hj WH j) mk8)
    (fun b => w.heap.size ≤ b ∧ Fw.blk vw ≠ some b ∧ Fw.blk vp ≠ some b ∧ ∀ j, j < n → R j = [] → Fw.blk (Hj WH j) ≠ some b) :=
  ⟨fun w1 w2 b h hb hg => ⟨h.1.grown hg h.1.size fun c hc => by cases hc; exact hb.1, h.2.1.gr' hg fun c hc => by cases hc; exact hb.2.1, h.2.2.1.gr' hg fun c hc => by cases hc; exact hb.2.2.1, fun j hj he => (h.2.2.2 j hj he).gr' hg fun c hc => by cases hc; exact hb.2.2.2 j hj he⟩,
   fun w1 w2 h hB => ⟨h.1.trans (hB.mono h.1.size), h.2.1.up hB, h.2.2.1.up hB, fun j hj he => (h.2.2.2 j hj he).up hB⟩⟩
set_option maxHeartbeats 16000000 in
theorem culletlaw19_MendShards_spec (w : World) (f k m : Int) (s : Value) (hs : List Hd) (R : Nat → List (El 8)) (h : Sl w s hs) (hr : ∀ j (hj : j < hs.length), Sl w (Cell.v hs[j]) (R j)) (hb : ∀ j, j < hs.length → (R j).length ≤ 140737488355328) (hn : hs.length ≤ 140737488355328) :
    CallV Try.prog 7 [.agg #[.int .i64 f, .int .i64 k, .int .i64 m, s]] w fun v w' => v = .bool true ∧ RowKit.Below w.heap.size w w' := by
  have hlr : ∀ j, j < hs.length → hln hs j = (R j).length := fun j hj => hln_row hr hj
  refine run_culletlaw19_MendShards (by simp) ?_
  simp only [c_culletlaw19_MendShards, WS, ↓reduceIte, Nat.reduceEqDiff, reduceCtorEq]
  refine X_box fun b w1 hrb hlb hB => ?_
  have hrb : Row w1 b [.int .i64 f, .int .i64 k, .int .i64 m, s] := hrb
  have B := hB
  have hr := fun j hj => (hr j hj).up hB
  have h := h.up hB
  clear hB hlb
  simp (maxSteps := 1000000) (disch := omega) only [WS, ↓reduceIte, Nat.reduceEqDiff, reduceCtorEq, AS]
  refine X_call0 ((culletlaw19_awake_spec w1).mono ?_)
  rintro _ w2 ⟨rfl, hB⟩
  have hr := fun j hj => (hr j hj).up hB
  have h := h.up hB
  have hrb := hrb.up hB
  have B := B.trans (hB.mono B.size)
  clear hB
  simp (maxSteps := 1000000) (disch := omega) only [WS, ↓reduceIte, Nat.reduceEqDiff, reduceCtorEq, AS, hrb.Xldn (n := 4) rfl]
  refine X_call0 ((culletlaw19_work_spec w2 f k m s hs h (hln_le fun j hj => by rw [hlr j hj]; exact hb j hj) hn).mono ?_)
  rintro _ w3 ⟨hB, x, rfl, hx⟩
  have hr := fun j hj => (hr j hj).up hB
  have h := h.up hB
  have hrb := hrb.up hB
  have B := B.trans (hB.mono B.size)
  clear hB
  by_cases hbig : x > 4194304
  · simp (maxSteps := 1000000) (disch := omega) only [WS, ↓reduceIte, Nat.reduceEqDiff, reduceCtorEq, AS]
    exact B
  obtain ⟨hn2, hl2⟩ := hx (by omega)
  have hl3 : ∀ j, j < hs.length → (R j).length ≤ 65536 := fun j hj => by rw [← hlr j hj]; exact hl2 j hj
  clear hx hl2 hb hn
  simp (maxSteps := 1000000) (disch := omega) only [WS, ↓reduceIte, Nat.reduceEqDiff, reduceCtorEq, AS, hrb.Xld (show 0 < _ by simp), hrb.Xld (show 1 < _ by simp), hrb.Xld (show 2 < _ by simp), hrb.Xld (show 3 < _ by simp)]
  refine X_call0 ((culletref19_Shards_R w3 f k m s hs R h hr (by omega) (fun j hj => by have := hl3 j hj; omega)).mono ?_)
  rintro vv w4 ⟨hB, e, RW, WL, so, sw, hsW, rfl, hR, lhsW, hW, ow⟩
  have hr := fun j hj => (hr j hj).up hB
  have h := h.up hB
  have hrb := hrb.up hB
  have B := B.trans (hB.mono B.size)
  clear hB
  have lWL := hR.wl
  have hlRW := hR.le hlr hl3
  simp (maxSteps := 1000000) (disch := omega) only [WS, ↓reduceIte, Nat.reduceEqDiff, reduceCtorEq, AS, hrb.Xld (show 3 < _ by simp)]
  refine X_call0 ((culletlaw19_roomy_spec w4 s hs R h hr (by omega) (fun j hj => by have := hl3 j hj; omega)).mono ?_)
  rintro vv w5 ⟨hB5, vw, vp, WH, PH, z, E, rfl, lWH, lPH, hz, hzw, hzp, hz5, ovw, ovp, hLE, lE, hE⟩
  have hlm := mk8_len
  have hEo : ∀ j, j < hs.length → Ow z w5 (Hj WH j) (R j ++ mk8) := fun j hj => by
    obtain ⟨e1, a1, a2, a3⟩ := hE j hj
    rw [a2]; exact hLE.ow j _ a1
  have hWz : ∀ j, j < hs.length → ∀ b, Fw.blk (Hj WH j) = some b → z ≤ b ∧ b < w5.heap.size := fun j hj b hb => (hEo j hj).blk b hb
  have hnil : ∀ j, R j ++ mk8 ≠ [] := fun j e => List.cons_ne_nil _ _ (List.append_eq_nil_iff.1 e).2
  have hPo : ∀ j, j < hs.length → OwT z w5 (Hj PH j) (R j) mk8 := fun j hj => by
    obtain ⟨e1, a1, a2, a3⟩ := hE j hj
    rw [a3]; exact OwT.of (hLE.ow j _ a1) (by simp [mk8])
  have hPb : ∀ j, j < hs.length → Fw.blk (Hj PH j) = Fw.blk (Hj WH j) := fun j hj => by
    obtain ⟨e1, a1, a2, a3⟩ := hE j hj
    rw [a3, a2]; exact sub0_blk _ (hLE.ow j _ a1) (hnil j) _
  have hPW : ∀ j, j < hs.length → Fw.sub (Hj PH j) 0 ((R j).length + mk8.length) = Hj WH j := fun j hj => by
    obtain ⟨e1, a1, a2, a3⟩ := hE j hj
    rw [a3, a2]
    rcases hLE.ow j _ a1 with ⟨_, h0⟩ | ⟨b9, cap, rest, h8, h1, hc, hr⟩
    · exact absurd h0 (hnil j)
    · simp only at h8
      rw [h8]
      exact sub_whole _ _ _ _ _ (by rw [List.length_append])
  have hPn : ∀ j (hj : j < PH.length), PH[j].n = (R j).length := fun j hj => by
    obtain ⟨e1, a1, a2, a3⟩ := hE j (by omega)
    rw [Hj_get hj] at a3
    exact sub0_n _ (hLE.ow j _ a1) (hnil j) _ a3
  have hap : ∀ i j b, i < hs.length → j < hs.length → i ≠ j → Fw.blk (Hj WH i) = some b → Fw.blk (Hj WH j) ≠ some b := fun i j b hi hj hij hb => by
    obtain ⟨e1, a1, a2, a3⟩ := hE i hi
    obtain ⟨e2, c1, c2, c3⟩ := hE j hj
    rw [a2] at hb
    rw [c2]
    exact hLE.ap i j _ _ b a1 c1 hij hb
  have h5 := h.up hB5
  have hrb5 := hrb.up hB5
  have hr5 := fun j hj => (hr j hj).up hB5
  clear hE
  simp (maxSteps := 1000000) (disch := omega) only [WS, ↓reduceIte, Nat.reduceEqDiff, reduceCtorEq, AS]
  refine X_bslE fun p0 w6 oe hB6 => ?_
  simp (maxSteps := 1000000) (disch := omega) only [WS, ↓reduceIte, Nat.reduceEqDiff, reduceCtorEq, AS]
  refine oe.Xapp (ovp.up hB6).sl hB6 hB6.size (by simp only [maxBytes]; omega) (by decide) (by omega) fun sl w7 ol hB7 _ => ?_
  have z7 := hB7.size
  have hslb := ol.blk
  have hF := frmP w4 hs.length z vw vp WH PH R
  have hS : ShM w4.heap.size (fun w' => RowKit.Below w4.heap.size w4 w' ∧ Ow w4.heap.size w' vw WH ∧ Ow w4.heap.size w' vp PH ∧ ∀ j, j < hs.length → R j = [] → Ow z w' (Hj WH j) mk8) (fun j => if R j = [] then [] else mk8) sl PH R w7 := by
    refine ⟨ol.mono hB5.size, fun j hj hne => ?_, fun j hj he => by rw [hPn j hj, he]; rfl, fun j hj hne e => ?_, fun i j hi hj hij h1 h2 e => ?_, hB5.trans (hB7.mono hB5.size), ovw.up hB7, ovp.up hB7, fun j hj he => by have := (hEo j hj).up hB7; rw [he] at this; exact this⟩
    · rw [if_neg hne, ← Hj_get hj]
      exact ((hPo j (by omega)).up hB7).mono hz
    · obtain ⟨c, hc, hc1, hc2⟩ := (hPo j (by omega)).blk
      rw [← Hj_get hj, hc] at e
      have := (ol.blk c e.symm).1
      omega
    · obtain ⟨c, hc, hc1, hc2⟩ := (hPo i (by omega)).blk
      rw [← Hj_get hi, ← Hj_get hj, hc] at e
      exact hap i j c (by omega) (by omega) hij ((hPb i (by omega)).symm.trans hc) ((hPb j (by omega)).symm.trans e.symm)
  have hlP : hln PH = hln hs := funext fun j => by
    by_cases hj : j < hs.length
    · rw [hln_get PH (by omega), hPn j (by omega), hlr j hj]
    · unfold hln
      rw [List.getD_eq_getElem?_getD, List.getElem?_eq_none (by omega), List.getD_eq_getElem?_getD, List.getElem?_eq_none (by omega)]
  have hlP2 : ∀ j, hln PH j ≤ 1099511627776 := hln_le fun j hj => by rw [hlP, hlr j (by omega)]; have := hl3 j (by omega); omega
  have hB47 := hS.frm.1
  clear hB6 oe hB7 ol ovw ovp hEo hPo
  have hrb7 := hrb.up hB47
  simp (maxSteps := 1000000) (disch := omega) only [WS, ↓reduceIte, Nat.reduceEqDiff, reduceCtorEq, AS, hrb7.Xld (show 0 < _ by simp), hrb7.Xld (show 1 < _ by simp), hrb7.Xld (show 2 < _ by simp)]
  refine X_call0 ((mend_Find_R w7 f k m sl PH R hS.top.sl (fun j hj => hS.sl hj) hlP2).mono ?_)
  rw [hlP, lPH]
  rintro vv w8 ⟨hB8, e2, RW2, WL2, sf, rfl, hR2, of⟩
  obtain ⟨rfl, rfl, rfl⟩ := hR.uniq hR2
  have hS8 := hS.up hF hB8
  have C := hS8.frm.1
  have h8 := h.up C
  have hrb8 := hrb.up C
  have ow8 := ow.up C
  simp (maxSteps := 1000000) (disch := omega) only [WS, ↓reduceIte, Nat.reduceEqDiff, reduceCtorEq, AS, ne_eq, not_true_eq_false, decide_false]
  refine X_call0 ((culletlaw19_sameInts_spec w8 sf sw _ _ of.sl ow8.sl (by omega) (by omega)).mono ?_)
  rintro _ w9 ⟨rfl, hk⟩
  have hS9 := hS8.up hF hk.1
  have C := hS9.frm.1
  have h9 := h.up C
  have hrb9 := hrb.up C
  have hr9 := fun j hj => (hr j hj).up C
  clear hS hS8 h8 hrb8 ow8 hrb7 of hB8 hk hR2
  simp (maxSteps := 1000000) (disch := omega) only [WS, ↓reduceIte, Nat.reduceEqDiff, reduceCtorEq, AS, decide_eq_true rfl, hrb9.Xld (show 3 < _ by simp)]
  refine X_call0 ((culletlaw19_same_spec w9 sl s PH hs R R hS9.top.sl h9 (fun j hj => hS9.sl hj) hr9 (by omega) (by omega) (fun j hj => by have := hl3 j (by omega); omega) (fun j hj => by have := hl3 j hj; omega)).mono ?_)
  rintro _ w10 ⟨hB, -, bb, rfl, hbb⟩
  have hS10 := hS9.up hF hB
  have C := hS10.frm.1
  have hrb10 := hrb.up C
  clear hS9 h9 hrb9 hr9 hB
  simp (maxSteps := 1000000) (disch := omega) only [WS, ↓reduceIte, Nat.reduceEqDiff, reduceCtorEq, AS, hbb.2 ⟨lPH, fun j hj => rfl⟩, hrb10.Xld (show 0 < _ by simp), hrb10.Xld (show 1 < _ by simp), hrb10.Xld (show 2 < _ by simp)]
  have hDr : ∀ j (hj : j < PH.length) b, Fw.blk (Cell.v PH[j]) = some b → R j ≠ [] → w4.heap.size ≤ b ∧ Fw.blk vw ≠ some b ∧ Fw.blk vp ≠ some b ∧ ∀ i, i < hs.length → R i = [] → Fw.blk (Hj WH i) ≠ some b := fun j hj b hb hne => by
    rw [← Hj_get hj, hPb j (by omega)] at hb
    have hzb := (hWz j (by omega) b hb).1
    exact ⟨by omega, fun e => by have := hzw b e; omega, fun e => by have := hzp b e; omega, fun i hi he => hap j i b (by omega) hi (fun e => hne (e ▸ he)) hb⟩
  refine X_call0 ((mend_Shards_R w10 f k m sl PH R hF hS10 (by have := C.size; omega) hDr (fun b hb => by have hbz := (hslb b hb).1; have := hB5.size; exact ⟨by omega, fun e => by have := hzw b e; omega, fun e => by have := hzp b e; omega, fun i hi he e => by have := (hWz i hi b e).2; omega⟩) (fun j he => if_pos he) hlP2).mono ?_)
  rw [hlP]
  rintro vv w11 ⟨z11, e3, RW3, WL3, sx, hs3, rfl, hR3, lhs3, hS11, hkeep, ox⟩
  rw [lPH] at hR3 lhs3
  obtain ⟨rfl, rfl, rfl⟩ := hR.uniq hR3
  clear hR3 hS10 hrb10 hbb bb
  have C := hS11.frm.1
  have hW11 := hW.up (frmT fun _ => True) C
  have ow11 := ow.up C
  simp (maxSteps := 1000000) (disch := omega) only [WS, ↓reduceIte, Nat.reduceEqDiff, reduceCtorEq, AS, ne_eq, not_true_eq_false, decide_false]
  refine X_call0 ((culletlaw19_sameInts_spec w11 sx sw _ _ ox.sl ow11.sl (by omega) (by omega)).mono ?_)
  rintro _ w12 ⟨rfl, hk⟩
  have hS12 := hS11.up hF hk.1
  have hW12 := hW11.up (frmT fun _ => True) hk.1
  clear hS11 hW11 ow11 ox hk C z11
  simp (maxSteps := 1000000) (disch := omega) only [WS, ↓reduceIte, Nat.reduceEqDiff, reduceCtorEq, AS, decide_eq_true rfl]
  refine X_call0 ((culletlaw19_same_spec w12 sl so hs3 hsW RW RW hS12.top.sl hW12.top.sl (fun j hj => hS12.sl hj) (fun j hj => hW12.sl hj) (by omega) (by omega) (fun j hj => by have := hlRW j (by omega); omega) (fun j hj => by have := hlRW j (by omega); omega)).mono ?_)
  rintro _ w13 ⟨hB, -, bb, rfl, hbb⟩
  have hS13 := hS12.up hF hB
  have hW13 := hW12.up (frmT fun _ => True) hB
  clear hS12 hW12 hB
  simp (maxSteps := 1000000) (disch := omega) only [WS, ↓reduceIte, Nat.reduceEqDiff, reduceCtorEq, AS, hbb.2 ⟨by omega, fun j hj => rfl⟩]
  refine loop_of (fun t w' => t 1 = .pointer (some ⟨b, 0, none⟩) ∧ t 3 = so ∧ t 5 = .int .i64 e ∧ t 6 = vw ∧ t 7 = vp ∧ t 8 = sl ∧ RowKit.Below w13.heap.size w13 w' ∧ ∃ i : Nat, t 12 = .int .i64 (i : Int) ∧ i ≤ hs.length) (fun t _ => hs.length - (toI (t 12)).toNat)
    ⟨by simp only [WS, ↓reduceIte, Nat.reduceEqDiff, reduceCtorEq], by simp only [WS, ↓reduceIte, Nat.reduceEqDiff, reduceCtorEq], by simp only [WS, ↓reduceIte, Nat.reduceEqDiff, reduceCtorEq], by simp only [WS, ↓reduceIte, Nat.reduceEqDiff, reduceCtorEq], by simp only [WS, ↓reduceIte, Nat.reduceEqDiff, reduceCtorEq], by simp only [WS, ↓reduceIte, Nat.reduceEqDiff, reduceCtorEq], RowKit.Below.refl _ _, 0, by simp only [WS, ↓reduceIte, Nat.reduceEqDiff, reduceCtorEq]; rfl, by omega⟩ ?_
  rintro t w14 ⟨t1, t3, t5, t6, t7, t8, D, i, t12, hi⟩
  have hS14 := hS13.up hF D
  have hp14 := hS14.frm.2.2.1.sl
  have lPH' : ((PH.length : Nat) : Int) = (hs.length : Int) := by omega
  by_cases hil : i < hs.length
  rotate_left
  · have C := hS14.frm.1
    have hrb14 := hrb.up C
    simp (maxSteps := 1000000) (disch := omega) only [WS, ↓reduceIte, Nat.reduceEqDiff, reduceCtorEq, AS, t1, t3, t5, t6, t7, t8, t12, hp14.Xlen, lPH', hrb14.Xld (show 0 < _ by simp), hrb14.Xld (show 1 < _ by simp), hrb14.Xld (show 2 < _ by simp)]
    refine X_call0 ((mend_Find_R w14 f k m sl hs3 RW hS14.top.sl (fun j hj => hS14.sl hj) (hln_le fun j hj => by rw [hln_row (fun j hj => hS14.sl hj) hj]; have := hlRW j (by omega); omega)).mono ?_)
    rintro vv w15 ⟨hB, e4, RW4, WL4, sy, rfl, hR4, oy⟩
    rw [show hs3.length = hs.length by omega] at hR4
    obtain ⟨rfl, hor⟩ := hR.again hlr (fun j hj => hln_row (fun j hj => hS14.sl hj) (by omega)) (fun j hj => by unfold hln; rw [List.getD_eq_getElem?_getD, List.getElem?_eq_none (by omega), List.getD_eq_getElem?_getD, List.getElem?_eq_none (by omega)]) hR4
    have Bf := B.trans ((C.trans (hB.mono C.size)).mono B.size)
    by_cases he0 : e4 = 0
    · rcases hor with h1 | h1
      · exact absurd he0 h1
      subst h1
      simp (maxSteps := 1000000) (disch := omega) only [WS, ↓reduceIte, Nat.reduceEqDiff, reduceCtorEq, AS, t1, t3, t5, t6, t7, t8, decide_eq_true rfl, he0, oy.sl.Xlen, ne_eq, not_true_eq_false, decide_false, List.length_nil]
      exact Bf
    · simp (maxSteps := 1000000) (disch := omega) only [WS, ↓reduceIte, Nat.reduceEqDiff, reduceCtorEq, AS, t1, t3, t5, t6, t7, t8, decide_eq_true rfl, decide_eq_true (show e4 ≠ 0 from he0)]
      exact Bf
  have iP : i < PH.length := by omega
  have i3 : i < hs3.length := by omega
  have iW : i < WH.length := by omega
  have iw : i < hsW.length := by omega
  have hx := hPn i iP
  have hli := hl3 i hil
  have hrow : ∀ w', RowKit.Below w13.heap.size w13 w' → ∃ l : List (El 8), l.length = (R i).length ∧ Sl w' (Value.slice WH[i].a WH[i].n WH[i].c) (l ++ mk8) := fun w' hB => by
    have hS' := hS13.up hF hB
    show ∃ l : List (El 8), l.length = (R i).length ∧ Sl w' (Cell.v WH[i]) (l ++ mk8)
    rw [← Hj_get iW]
    by_cases he : R i = []
    · exact ⟨[], by rw [he], (hS'.frm.2.2.2 i hil he).sl⟩
    · have hlen := hR.len hlr hil he
      have hRW : RW i ≠ [] := fun e => he (List.eq_nil_of_length_eq_zero (by rw [← hlen, e]; rfl))
      have ho := hS'.row i i3 hRW
      rw [if_neg he, hkeep i iP i3 he, ← Hj_get iP] at ho
      have ho := ho.whole.sl
      rw [hlen, hPW i hil] at ho
      exact ⟨RW i, hlen, ho⟩
  simp (maxSteps := 1000000) (disch := omega) only [WS, ↓reduceIte, Nat.reduceEqDiff, reduceCtorEq, AS, t1, t3, t5, t6, t7, t8, t12, hp14.Xlen, lPH']
  refine loop_of (fun t w' => t 1 = .pointer (some ⟨b, 0, none⟩) ∧ t 3 = so ∧ t 5 = .int .i64 e ∧ t 6 = vw ∧ t 7 = vp ∧ t 8 = sl ∧ t 12 = .int .i64 (i : Int) ∧ RowKit.Below w13.heap.size w13 w' ∧ ∃ j : Nat, t 13 = .int .i64 (j : Int) ∧ j ≤ 8) (fun t _ => 8 - (toI (t 13)).toNat)
    ⟨by simp only [WS, ↓reduceIte, Nat.reduceEqDiff, reduceCtorEq]; exact t1, by simp only [WS, ↓reduceIte, Nat.reduceEqDiff, reduceCtorEq]; exact t3, by simp only [WS, ↓reduceIte, Nat.reduceEqDiff, reduceCtorEq]; exact t5, by simp only [WS, ↓reduceIte, Nat.reduceEqDiff, reduceCtorEq]; exact t6, by simp only [WS, ↓reduceIte, Nat.reduceEqDiff, reduceCtorEq]; exact t7, by simp only [WS, ↓reduceIte, Nat.reduceEqDiff, reduceCtorEq]; exact t8, by simp only [WS, ↓reduceIte, Nat.reduceEqDiff, reduceCtorEq]; exact t12, D, 0, by simp only [WS, ↓reduceIte, Nat.reduceEqDiff, reduceCtorEq]; rfl, by omega⟩ ?_
  clear t1 t3 t5 t6 t7 t8 t12 hS14 hp14 D
  rintro t w15 ⟨t1, t3, t5, t6, t7, t8, t12, D, j, t13, hj⟩
  by_cases hj8 : j < 8
  · simp (maxSteps := 1000000) (disch := omega) only [WS, ↓reduceIte, Nat.reduceEqDiff, reduceCtorEq, AS, t1, t3, t5, t6, t7, t8, t12, t13]
    refine WP_dops ?_
    have D := D.trans ((bel_drew w15).mono D.size)
    have hS' := hS13.up hF D
    obtain ⟨l, hll, hrl⟩ := hrow _ D
    have hw' := hS'.frm.2.1.sl
    have hp' := hS'.frm.2.2.1.sl
    have ij : (R i).length + j < (l ++ mk8).length := by rw [List.length_append]; omega
    have ej : j < mk8.length := by omega
    have eM : (l ++ mk8)[(R i).length + j] = mk8[j] := by
      rw [List.getElem_append_right (by omega)]
      congr 1
      omega
    have e1 : IntKind.i64.wrap (((R i).length : Int) + (j : Int)) = (((R i).length + j : Nat) : Int) := by rw [wrap_id (by omega) (by omega)]; omega
    have e2 : IntKind.u8.wrap (IntKind.i64.wrap (201 + (j : Int))) = ((mk8[j].v.toNat : Nat) : Int) := (mk8_at j ej).symm
    simp (maxSteps := 1000000) (disch := omega) only [ES, List.mem_cons, List.not_mem_nil, implies_true, forall_const, WS, ↓reduceIte, Nat.reduceEqDiff, reduceCtorEq, AS, t1, t3, t5, t6, t7, t8, t12, t13, hw'.Eix iW, hw'.Eld iW, hp'.Eix iP, hp'.Eld iP, cell_hd, E_lenS, hx, e1, hrl.Eix ij, hrl.Eld ij, cell_e8, eM, e2, ne_eq, not_true_eq_false, decide_false]
    exact ⟨⟨D, j + 1, rfl, by omega⟩, by omega⟩
  simp (maxSteps := 1000000) (disch := omega) only [WS, ↓reduceIte, Nat.reduceEqDiff, reduceCtorEq, AS, t1, t3, t5, t6, t7, t8, t12, t13]
  refine WP_dops ?_
  have D := D.trans ((bel_drew w15).mono D.size)
  have hS' := hS13.up hF D
  have hp' := hS'.frm.2.2.1.sl
  by_cases he : R i = []
  · have hx0 : PH[i].n = 0 := by rw [hx, he]; rfl
    simp (maxSteps := 1000000) (disch := omega) only [ES, List.mem_cons, List.not_mem_nil, implies_true, forall_const, WS, ↓reduceIte, Nat.reduceEqDiff, reduceCtorEq, AS, t1, t3, t5, t6, t7, t8, t12, t13, hp'.Eix iP, hp'.Eld iP, cell_hd, E_lenS, hx0, show decide (((0 : Nat) : Int) > 0) = false from rfl]
    exact ⟨⟨D, i + 1, rfl, by omega⟩, by omega⟩
  · have hx0 : PH[i].n ≠ 0 := by rw [hx]; exact fun e => he (List.eq_nil_of_length_eq_zero e)
    have hx1 : ((PH[i].n : Nat) : Int) > 0 := by omega
    have hW' := hW13.up (frmT fun _ => True) D
    have r1 : Sl w15.drew (Value.slice PH[i].a PH[i].n PH[i].c) (RW i) := by have := hS'.sl i3; rw [hkeep i iP i3 he] at this; exact this
    have r2 : Sl w15.drew (Value.slice hsW[i].a hsW[i].n hsW[i].c) (RW i) := hW'.sl iw
    have hlw := hlRW i hil
    simp (maxSteps := 1000000) (disch := omega) only [ES, List.mem_cons, List.not_mem_nil, implies_true, forall_const, WS, ↓reduceIte, Nat.reduceEqDiff, reduceCtorEq, AS, t1, t3, t5, t6, t7, t8, t12, t13, hp'.Eix iP, hp'.Eld iP, cell_hd, E_lenS, decide_eq_true hx1, hW'.top.sl.Eix iw, hW'.top.sl.Eld iw]
    refine E_call0 ((culletlaw19_sameBytes_spec w15.drew _ _ _ _ r1 r2 (by omega) (by omega)).mono ?_)
    rintro _ w16 ⟨rfl, hk⟩
    have D := D.trans (hk.1.mono D.size)
    clear hk
    simp (maxSteps := 1000000) (disch := omega) only [ES, List.mem_cons, List.not_mem_nil, implies_true, forall_const, WS, ↓reduceIte, Nat.reduceEqDiff, reduceCtorEq, AS, decide_eq_true rfl, t1, t3, t5, t6, t7, t8, t12, t13]
    exact ⟨⟨D, i + 1, rfl, by omega⟩, by omega⟩
end Go.Proofs.Ytbaljbadlfopgaa.Fw
