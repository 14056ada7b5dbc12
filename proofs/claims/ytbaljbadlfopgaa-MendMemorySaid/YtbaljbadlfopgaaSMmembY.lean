import Derived.Test.YtbaljbadlfopgaaProg
import Derived.Test.YtbaljbadlfopgaaFwTY
import Derived.Test.YtbaljbadlfopgaaSMaptY
import Derived.Test.YtbaljbadlfopgaaFwWY
set_option linter.all false
set_option linter.unusedVariables false
set_option linter.unusedSimpArgs false
set_option maxRecDepth 100000
set_option maxHeartbeats 1000000
namespace Go.Proofs.Ytbaljbadlfopgaa.Fw
open Go Go.Fw Go.Proofs
attribute [local irreducible] stepI
end Go.Proofs.Ytbaljbadlfopgaa.Fw
namespace Go.Proofs.Ytbaljbadlfopgaa.Fw
open Go Go.Fw
theorem prm_zero {f k m : Int} (hf : f = 0 ∨ f = 1) (hk : 1 ≤ k) (hm : 1 ≤ m) (hkm : k + m ≤ 256) : prm f k m = 0 := by
  unfold prm
  rw [if_neg (by omega), if_neg (by omega), if_neg (by omega), if_neg (by omega)]
theorem cnt_zero {f k m : Int} {n : Nat} (hf : f = 0 ∨ f = 1) (hk : 1 ≤ k) (hm : 1 ≤ m) (hkm : k + m ≤ 256) (hn : (n : Int) = k + m) : cnt f k m n = 0 := by
  unfold cnt
  rw [if_neg (fun h => h (prm_zero hf hk hm hkm)), if_neg (by omega)]
theorem wer_ok {f k m : Int} {L : Nat → Nat} {n len T : Nat} {ev : Bool} (hf : f = 0 ∨ f = 1) (hk : 1 ≤ k) (hm : 1 ≤ m) (hkm : k + m ≤ 256) (hn : (n : Int) = k + m) (hL : Lns L n len ev) (hT : 1 ≤ T) (hLT : ∀ j, j < n → L j = 0 ∨ L j = T) (hz : ((zis L n).length : Int) ≤ m) : wer f k m L n len ev = 0 ∧ len = T := by
  have hnp := prsL_len L n
  obtain ⟨a1, a2⟩ := prsL_get (L := L) (n := n) (i := 0) (by omega)
  have h0 : len ≠ 0 := fun e => a2 (hL.z.1 e _ a1)
  obtain ⟨j, hj, hj2⟩ := hL.m h0
  have hlT : len = T := by
    rcases hLT j hj with e | e
    · omega
    · omega
  have hev : ev = true := hL.e.2 fun i hi => by rw [hlT]; exact hLT i hi
  refine ⟨?_, hlT⟩
  unfold wer prt
  rw [if_pos hf, if_neg (fun h => h (cnt_zero hf hk hm hkm hn)), if_neg h0, hev, if_neg (by simp), if_neg (by unfold oddB; rw [decide_eq_false (by omega)]; simp), if_neg (by omega)]
theorem rowS_congr {f : Int} {k : Nat} {G G' : Nat → List (El 8)} {len s : Nat} (h : ∀ t, t < len → G t = G' t) : rowS f k G len s = rowS f k G' len s := by
  unfold rowS
  exact List.map_congr_left fun t ht => by rw [h t (List.mem_range.1 ht)]
end Go.Proofs.Ytbaljbadlfopgaa.Fw

set_option linter.unusedVariables false
set_option linter.unusedSimpArgs false
set_option maxRecDepth 100000
set_option maxHeartbeats 1000000
namespace Go.Proofs.Ytbaljbadlfopgaa.Fw
open Go Go.Fw Go.Proofs
attribute [local irreducible] stepI

end Go.Proofs.Ytbaljbadlfopgaa.Fw
namespace Go.Proofs.Ytbaljbadlfopgaa.Fw
open Go Go.Fw
section
variable {α : Type} [Cell α] {B : Nat} {F F' : World → Prop} {Tm : Nat → List α} {v : Value} {hs : List Hd} {R : Nat → List α} {w w' : World} {lo hi : Nat}
theorem shOff (h : ShM B F Tm v hs R w) {c : Nat} (hg : w.grownBy w' (some c)) (hv : Fw.blk v ≠ some c) (hr : ∀ j (hj : j < hs.length), R j ≠ [] → Fw.blk (Cell.v hs[j]) ≠ some c) (hf : F' w') : ShM B F' Tm v hs R w' :=
  ⟨h.top.gr' hg fun x hx e => by cases hx; exact hv e, fun j hj hn => (h.row j hj hn).grown hg (hr j hj hn), h.emp, h.apv, h.apr, hf⟩
theorem owtOut {s : Value} {l m : List α} (h : OwT B w s l m) (ho : Out lo hi w w') (hb : ∀ b, Fw.blk s = some b → b < lo ∨ hi ≤ b) : OwT B w' s l m := by
  obtain ⟨b, cap, rest, rfl, h1, hc, hr⟩ := h
  exact ⟨b, cap, rest, rfl, h1, hc, row_up hr (ho.eq b (row_lt hr) (hb b rfl))⟩
theorem owOut {s : Value} {l : List α} (h : Ow B w s l) (ho : Out lo hi w w') (hb : ∀ b, Fw.blk s = some b → b < lo ∨ hi ≤ b) : Ow B w' s l := by
  rcases h with hn | ⟨b, cap, rest, rfl, h1, hc, hr⟩
  · exact Or.inl hn
  · exact Or.inr ⟨b, cap, rest, rfl, h1, hc, row_up hr (ho.eq b (row_lt hr) (hb b rfl))⟩
theorem shOut (h : ShM B F Tm v hs R w) (ho : Out lo hi w w') (hv : ∀ b, Fw.blk v = some b → b < lo ∨ hi ≤ b) (hr : ∀ j (hj : j < hs.length), R j ≠ [] → ∀ b, Fw.blk (Cell.v hs[j]) = some b → b < lo ∨ hi ≤ b) (hf : F' w') : ShM B F' Tm v hs R w' :=
  ⟨owOut h.top ho hv, fun j hj hn => owtOut (h.row j hj hn) ho (hr j hj hn), h.emp, h.apv, h.apr, hf⟩
theorem shLst (h : ShM B F Tm v hs R w) (hn : ∀ j, j < hs.length → R j ≠ []) : Lst B (rowsE hs R) w := by
  refine ⟨fun j e he => ?_, fun j m e f b he hf hjm hb => ?_⟩
  · obtain ⟨hj, rfl⟩ := rowsE_get he
    exact (h.row j hj (hn j hj)).ow
  · obtain ⟨hj, rfl⟩ := rowsE_get he
    obtain ⟨hm, rfl⟩ := rowsE_get hf
    exact fun e => h.apr j m hj hm hjm (hn j hj) (hn m hm) (by rw [hb, e])
end
theorem zis_first {L : Nat → Nat} {n M : Nat} (h : ∀ j, j < n → (L j = 0 ↔ j < M)) : ∀ q, q ≤ n → (zis L q).length = min q M
  | 0, _ => by simp [zis]
  | q + 1, hq => by
    rw [zis_succ]
    have ih := zis_first h q (by omega)
    have h1 := h q (by omega)
    split
    · rename_i e
      rw [List.length_append, List.length_singleton, ih]
      have := h1.1 e
      omega
    · rename_i e
      rw [ih]
      have : ¬ q < M := fun h => e (h1.2 h)
      omega
theorem frmO (w wl : World) (lo hi : Nat) (hlo : wl.heap.size ≤ lo) : Frm (fun w' => Out lo hi w w' ∧ RowKit.Below wl.heap.size wl w') (fun b => lo ≤ b ∧ b < hi) :=
  ⟨fun w1 w2 b h hb hg => ⟨h.1.grown hg hb.1 hb.2, h.2.grown hg h.2.size fun c hc => by cases hc; omega⟩, fun w1 w2 h hB => ⟨h.1.below hB, h.2.trans (hB.mono h.2.size)⟩⟩
/-- The first M shards are lost: they are given back. -/
theorem mend_Shards_back {B : Nat} {Fr : World → Prop} {Df : Nat → Prop} (w : World) (f : Int) (K M T : Nat) (s : Value) (hs : List Hd) (G : Nat → List (El 8)) (hf : f = 0 ∨ f = 1) (hk : 1 ≤ K) (hm : 1 ≤ M) (hkm : K + M ≤ 256) (hT : 1 ≤ T) (hT2 : T ≤ 64) (hl : hs.length = K + M) (hG : ∀ t, t < T → tr (G t) = G t ∧ (G t).length ≤ K)
    (hF : Frm Fr Df) (hS : ShM B Fr (fun _ => []) s hs (fun j => if j < M then [] else rowS f K G T j) w) (hB : B ≤ w.heap.size) (hDr : ∀ j (hj : j < hs.length) b, Fw.blk (Cell.v hs[j]) = some b → M ≤ j → Df b) (hDv : ∀ b, Fw.blk s = some b → Df b) :
    CallV Try.prog 24 [.int .i64 f, .int .i64 (K : Int), .int .i64 (M : Int), s] w fun v w' => w.heap.size ≤ w'.heap.size ∧ ∃ (sw : Value) (hs' : List Hd), v = .tuple #[sw, .int .i64 0] ∧ hs'.length = K + M ∧ ShM B Fr (fun _ => []) s hs' (rowS f K G T) w' ∧ (∀ j (hj : j < hs.length) (hj' : j < hs'.length), M ≤ j → hs'[j] = hs[j]) ∧ (∀ j (hj' : j < hs'.length), j < M → ∀ b, Fw.blk (Cell.v hs'[j]) = some b → w.heap.size ≤ b) := by
  have hrn : ∀ j, rowS f K G T j ≠ [] := fun j => ne_of_len (rowS_len f K G T j) (by omega)
  have hLn : ∀ j, j < K + M → hln hs j = if j < M then 0 else T := fun j hj => by
    rw [hln_row (fun j hj => hS.sl hj) (by omega)]
    by_cases e : j < M
    · simp only [if_pos e]; rfl
    · simp only [if_neg e]; exact rowS_len ..
  have hLT : ∀ j, j < K + M → hln hs j = 0 ∨ hln hs j = T := fun j hj => by
    rw [hLn j hj]
    by_cases e : j < M
    · rw [if_pos e]; exact Or.inl rfl
    · rw [if_neg e]; exact Or.inr rfl
  have hz : (zis (hln hs) (K + M)).length = M := by
    rw [zis_first (n := K + M) (M := M) (fun j hj => by
      rw [hLn j hj]
      by_cases e : j < M
      · rw [if_pos e]; exact ⟨fun _ => e, fun _ => rfl⟩
      · rw [if_neg e]; exact ⟨fun h => by omega, fun h => absurd h e⟩) (K + M) (Nat.le_refl _)]
    omega
  have hnp := prsL_len (hln hs) (K + M)
  have hnear : ∀ y, y < T → nearS f K (hln hs) (K + M) (fun j => if j < M then [] else rowS f K G T j) y (G y) := fun y hy => by
    refine ⟨(hG y hy).1, (hG y hy).2, ?_⟩
    rw [offS_len hkm (by omega)]
    have : ((prsL (hln hs) (K + M)).filter fun s => !decide (nth ((fun j => if j < M then [] else rowS f K G T j) s) y = valS f K (G y) s)) = [] := List.filter_eq_nil_iff.2 fun s hs' => by
      obtain ⟨a1, a2⟩ := prsL_mem.1 hs'
      have e : ¬ s < M := fun h => a2 (by rw [hLn s a1, if_pos h])
      have e2 : nth (rowS f K G T s) y = valS f K (G y) s := by
        rw [nth_get (by rw [rowS_len]; exact hy)]; exact rowS_get _
      simp only [if_neg e, e2, decide_true, Bool.not_true, Bool.false_eq_true, not_false_eq_true]
    rw [this]
    exact Nat.zero_le _
  refine (mend_Shards_spec w f (K : Int) (M : Int) s hs _ hF hS hB (fun j hj b hb hn => hDr j hj b hb (by
    by_cases e : j < M
    · simp only [if_pos e] at hn; exact absurd rfl hn
    · omega)) hDv (fun _ _ => rfl) (hln_le fun j hj => by rw [hl] at hj; rcases hLT j hj with e | e <;> omega)).mono ?_
  rw [Int.toNat_natCast]
  rintro vv w1 ⟨z1, len, ev, hL, hres⟩
  rw [hl] at hL
  obtain ⟨hw0, hlT⟩ := wer_ok hf (by omega) (by omega) (by omega) (show ((K + M : Nat) : Int) = (K : Int) + (M : Int) by omega) (hL (cnt_zero hf (by omega) (by omega) (by omega) (by omega))) hT hLT (by omega)
  subst hlT
  refine ⟨z1, ?_⟩
  rcases hres with ⟨h9, -⟩ | ⟨-, -, ⟨-, -, y, hy, hfar⟩ | ⟨sw, G', bo, hs', a1, a2, a3, a4, a5, a6, -⟩⟩
  · rw [hl] at h9; exact absurd hw0 h9
  · rw [hl] at hfar
    have h1 := hfar (G y) (hnear y hy).1 (hnear y hy).2.1
    have h2 := (hnear y hy).2.2
    omega
  · rw [hl] at a6
    refine ⟨sw, hs', a1, by omega, a3.congr fun j hj => rowS_congr fun y hy => (nearS_uniq hkm (by omega) (a6 y hy) (hnear y hy)).symm, fun j hj hj' hjM => a4 j hj hj' (by simp only [if_neg (show ¬ j < M by omega)]; exact hrn j), fun j hj' hjM => a5 j hj' (by simp only [if_pos hjM])⟩
end Go.Proofs.Ytbaljbadlfopgaa.Fw

set_option linter.unusedVariables false
set_option linter.unusedSimpArgs false
set_option maxRecDepth 100000
set_option maxHeartbeats 1000000
namespace Go.Proofs.Ytbaljbadlfopgaa.Fw
open Go Go.Fw Go.Proofs
attribute [local irreducible] stepI
def c_culletlaw19_MendMemory : C := .seq (.ops [⟨0, (some 1), none, .box 61 (.t 0), []⟩, ⟨1, (some 2), none, .mov (.c (.bool false)), []⟩]) (.seq (.seq (.ops [⟨0, (some 32), none, .call (.c (.func (.func 13) #[] #[])) [], []⟩, ⟨1, (some 33), none, .un .not (.t 32), []⟩]) (.ite (.t 33) (.seq (.ops [⟨0, (some 2), none, .mov (.c (.bool false)), []⟩]) .ret) .skip)) (.seq (.seq (.ops [⟨0, (some 34), none, .fad 0 (.t 1), []⟩, ⟨1, (some 35), none, .ld (.t 34), []⟩, ⟨2, (some 36), none, .fad 1 (.t 1), []⟩, ⟨3, (some 37), none, .ld (.t 36), []⟩, ⟨4, (some 38), none, .fad 2 (.t 1), []⟩, ⟨5, (some 39), none, .ld (.t 38), []⟩, ⟨6, (some 40), none, .call (.c (.func (.func 26) #[] #[])) [.t 35, .t 37, .t 39], []⟩, ⟨7, (some 41), none, .un .not (.t 40), []⟩, ⟨8, (some 42), none, .mov (.t 41), []⟩, ⟨9, (some 43), (some (42, false)), .fad 3 (.t 1), []⟩, ⟨10, (some 44), (some (42, false)), .ld (.t 43), []⟩, ⟨11, (some 45), (some (42, false)), .len (.t 44), []⟩, ⟨12, (some 46), (some (42, false)), .bin .eql (.t 45) (.c (.int .i64 0)), []⟩, ⟨13, (some 47), none, .pick (.t 42) (.c (.bool true)) (.t 46), []⟩, ⟨14, (some 48), none, .mov (.t 47), []⟩, ⟨15, (some 49), (some (48, false)), .fad 3 (.t 1), []⟩, ⟨16, (some 50), (some (48, false)), .ld (.t 49), []⟩, ⟨17, (some 51), (some (48, false)), .len (.t 50), []⟩, ⟨18, (some 52), (some (48, false)), .bin .gtr (.t 51) (.c (.int .i64 16)), []⟩, ⟨19, (some 53), none, .pick (.t 48) (.c (.bool true)) (.t 52), []⟩, ⟨20, (some 54), none, .mov (.t 53), []⟩, ⟨21, (some 55), (some (54, false)), .fad 1 (.t 1), []⟩, ⟨22, (some 56), (some (54, false)), .ld (.t 55), []⟩, ⟨23, (some 57), (some (54, false)), .fad 2 (.t 1), []⟩, ⟨24, (some 58), (some (54, false)), .ld (.t 57), []⟩, ⟨25, (some 59), (some (54, false)), .bin .add (.t 56) (.t 58), []⟩, ⟨26, (some 60), (some (54, false)), .bin .gtr (.t 59) (.c (.int .i64 12)), []⟩, ⟨27, (some 61), none, .pick (.t 54) (.c (.bool true)) (.t 60), []⟩]) (.ite (.t 61) (.seq (.ops [⟨0, (some 2), none, .mov (.c (.bool true)), []⟩]) .ret) .skip)) (.seq (.ops [⟨0, (some 62), none, .ldn 6 (.t 1), []⟩, ⟨1, (some 63), none, .call (.c (.func (.func 30) #[] #[])) [.t 62], []⟩, ⟨2, (some 3), none, .mov (.t 63), []⟩]) (.seq (.ops [⟨0, (some 64), none, .fad 3 (.t 1), []⟩, ⟨1, (some 65), none, .ld (.t 64), []⟩, ⟨2, (some 66), none, .len (.t 65), []⟩, ⟨3, (some 67), none, .mks 5 1 [.int .u8 0] (.t 66) (.t 66), []⟩, ⟨4, (some 4), none, .mov (.t 67), []⟩]) (.seq (.seq (.ops [⟨0, (some 5), none, .mov (.c (.int .i64 0)), []⟩]) (.block 0 (.loop (.seq (.seq (.ops [⟨0, (some 68), none, .mov (.t 5), []⟩, ⟨1, (some 69), none, .mov (.t 4), []⟩, ⟨2, (some 70), none, .len (.t 69), []⟩, ⟨3, (some 71), none, .bin .lss (.t 68) (.t 70), []⟩]) (.ite (.t 71) .skip (.exit 0))) (.seq (.block 1 (.ops [⟨0, (some 74), none, .mov (.t 4), []⟩, ⟨1, (some 75), none, .mov (.t 5), []⟩, ⟨2, (some 76), none, .ixs 1 (.t 74) (.t 75), []⟩, ⟨3, none, none, .st (.t 76) (.c (.int .u8 99)), []⟩])) (.ops [⟨0, (some 72), none, .mov (.t 5), []⟩, ⟨1, (some 73), none, .bin .add (.t 72) (.c (.int .i64 1)), []⟩, ⟨2, (some 5), none, .mov (.t 73), []⟩])))))) (.seq (.ops [⟨0, (some 77), none, .mov (.t 3), []⟩, ⟨1, (some 78), none, .call (.c (.func (.func 23) #[] #[])) [.t 77], []⟩, ⟨2, (some 6), none, .mov (.t 78), []⟩]) (.seq (.ops [⟨0, (some 79), none, .mov (.t 3), []⟩, ⟨1, (some 80), none, .call (.c (.func (.func 23) #[] #[])) [.t 79], []⟩, ⟨2, (some 7), none, .mov (.t 80), []⟩]) (.seq (.seq (.ops [⟨0, (some 8), none, .mov (.c (.int .i64 0)), []⟩]) (.block 2 (.loop (.seq (.seq (.ops [⟨0, (some 81), none, .mov (.t 8), []⟩, ⟨1, (some 82), none, .fad 2 (.t 1), []⟩, ⟨2, (some 83), none, .ld (.t 82), []⟩, ⟨3, (some 84), none, .bin .lss (.t 81) (.t 83), []⟩]) (.ite (.t 84) .skip (.exit 2))) (.seq (.block 3 (.seq (.ops [⟨0, (some 87), none, .mov (.t 6), []⟩, ⟨1, (some 88), none, .mov (.t 8), []⟩, ⟨2, (some 89), none, .mov (.t 4), []⟩, ⟨3, (some 90), none, .slc 1 (.t 89) none (some (.c (.int .i64 0))) none, []⟩, ⟨4, (some 91), none, .ixs 1 (.t 87) (.t 88), []⟩, ⟨5, none, none, .st (.t 91) (.t 90), []⟩]) (.ops [⟨0, (some 92), none, .mov (.t 7), []⟩, ⟨1, (some 93), none, .mov (.t 8), []⟩, ⟨2, (some 94), none, .ixs 1 (.t 92) (.t 93), []⟩, ⟨3, none, none, .st (.t 94) (.c (.slice none 0 0)), []⟩]))) (.ops [⟨0, (some 85), none, .mov (.t 8), []⟩, ⟨1, (some 86), none, .bin .add (.t 85) (.c (.int .i64 1)), []⟩, ⟨2, (some 8), none, .mov (.t 86), []⟩])))))) (.seq (.seq (.ops [⟨0, (some 96), none, .fad 0 (.t 1), []⟩, ⟨1, (some 97), none, .ld (.t 96), []⟩, ⟨2, (some 98), none, .fad 1 (.t 1), []⟩, ⟨3, (some 99), none, .ld (.t 98), []⟩, ⟨4, (some 100), none, .fad 2 (.t 1), []⟩, ⟨5, (some 101), none, .ld (.t 100), []⟩, ⟨6, (some 102), none, .mov (.t 6), []⟩, ⟨7, (some 103), none, .call (.c (.func (.func 24) #[] #[])) [.t 97, .t 99, .t 101, .t 102], []⟩, ⟨8, (some 95), none, .mov (.t 103), []⟩, ⟨9, (some 104), none, .ext (.t 95) 0, []⟩, ⟨10, (some 105), none, .ext (.t 95) 1, []⟩, ⟨11, (some 9), none, .mov (.t 104), []⟩, ⟨12, (some 10), none, .mov (.t 105), []⟩]) (.seq (.ops [⟨0, (some 106), none, .mov (.t 10), []⟩, ⟨1, (some 107), none, .bin .neq (.t 106) (.c (.int .i64 0)), []⟩]) (.ite (.t 107) (.seq (.ops [⟨0, (some 2), none, .mov (.c (.bool false)), []⟩]) .ret) .skip))) (.seq (.seq (.ops [⟨0, (some 109), none, .fad 0 (.t 1), []⟩, ⟨1, (some 110), none, .ld (.t 109), []⟩, ⟨2, (some 111), none, .fad 1 (.t 1), []⟩, ⟨3, (some 112), none, .ld (.t 111), []⟩, ⟨4, (some 113), none, .fad 2 (.t 1), []⟩, ⟨5, (some 114), none, .ld (.t 113), []⟩, ⟨6, (some 115), none, .mov (.t 7), []⟩, ⟨7, (some 116), none, .call (.c (.func (.func 24) #[] #[])) [.t 110, .t 112, .t 114, .t 115], []⟩, ⟨8, (some 108), none, .mov (.t 116), []⟩, ⟨9, (some 117), none, .ext (.t 108) 0, []⟩, ⟨10, (some 118), none, .ext (.t 108) 1, []⟩, ⟨11, (some 11), none, .mov (.t 117), []⟩, ⟨12, (some 12), none, .mov (.t 118), []⟩]) (.seq (.ops [⟨0, (some 119), none, .mov (.t 12), []⟩, ⟨1, (some 120), none, .bin .neq (.t 119) (.c (.int .i64 0)), []⟩, ⟨2, (some 121), none, .mov (.t 120), []⟩, ⟨3, (some 122), (some (121, false)), .mov (.t 6), []⟩, ⟨4, (some 123), (some (121, false)), .mov (.t 3), []⟩, ⟨5, (some 124), (some (121, false)), .call (.c (.func (.func 25) #[] #[])) [.t 122, .t 123], []⟩, ⟨6, (some 125), (some (121, false)), .un .not (.t 124), []⟩, ⟨7, (some 126), none, .pick (.t 121) (.c (.bool true)) (.t 125), []⟩, ⟨8, (some 127), none, .mov (.t 126), []⟩, ⟨9, (some 128), (some (127, false)), .mov (.t 7), []⟩, ⟨10, (some 129), (some (127, false)), .mov (.t 3), []⟩, ⟨11, (some 130), (some (127, false)), .call (.c (.func (.func 25) #[] #[])) [.t 128, .t 129], []⟩, ⟨12, (some 131), (some (127, false)), .un .not (.t 130), []⟩, ⟨13, (some 132), none, .pick (.t 127) (.c (.bool true)) (.t 131), []⟩]) (.ite (.t 132) (.seq (.ops [⟨0, (some 2), none, .mov (.c (.bool false)), []⟩]) .ret) .skip))) (.seq (.seq (.ops [⟨0, (some 13), none, .mov (.c (.int .i64 0)), []⟩]) (.block 4 (.loop (.seq (.seq (.ops [⟨0, (some 133), none, .mov (.t 13), []⟩, ⟨1, (some 134), none, .mov (.t 4), []⟩, ⟨2, (some 135), none, .len (.t 134), []⟩, ⟨3, (some 136), none, .bin .lss (.t 133) (.t 135), []⟩]) (.ite (.t 136) .skip (.exit 4))) (.seq (.block 5 (.seq (.ops [⟨0, (some 139), none, .mov (.t 4), []⟩, ⟨1, (some 140), none, .mov (.t 13), []⟩, ⟨2, (some 141), none, .ixs 1 (.t 139) (.t 140), []⟩, ⟨3, (some 142), none, .ld (.t 141), []⟩, ⟨4, (some 143), none, .bin .neq (.t 142) (.c (.int .u8 99)), []⟩]) (.ite (.t 143) (.seq (.ops [⟨0, (some 2), none, .mov (.c (.bool false)), []⟩]) .ret) .skip))) (.ops [⟨0, (some 137), none, .mov (.t 13), []⟩, ⟨1, (some 138), none, .bin .add (.t 137) (.c (.int .i64 1)), []⟩, ⟨2, (some 13), none, .mov (.t 138), []⟩])))))) (.seq (.ops [⟨0, (some 144), none, .fad 1 (.t 1), []⟩, ⟨1, (some 145), none, .ld (.t 144), []⟩, ⟨2, (some 146), none, .fad 2 (.t 1), []⟩, ⟨3, (some 147), none, .ld (.t 146), []⟩, ⟨4, (some 148), none, .bin .add (.t 145) (.t 147), []⟩, ⟨5, (some 149), none, .mks 3 8 [.int .i64 0] (.t 148) (.t 148), []⟩, ⟨6, (some 14), none, .mov (.t 149), []⟩]) (.seq (.ops [⟨0, (some 150), none, .fad 1 (.t 1), []⟩, ⟨1, (some 151), none, .ld (.t 150), []⟩, ⟨2, (some 152), none, .fad 2 (.t 1), []⟩, ⟨3, (some 153), none, .ld (.t 152), []⟩, ⟨4, (some 154), none, .bin .add (.t 151) (.t 153), []⟩, ⟨5, (some 155), none, .mks 5 1 [.int .u8 0] (.t 154) (.t 154), []⟩, ⟨6, (some 15), none, .mov (.t 155), []⟩]) (.seq (.seq (.ops [⟨0, (some 16), none, .mov (.c (.int .i64 0)), []⟩]) (.block 6 (.loop (.seq (.seq (.ops [⟨0, (some 156), none, .mov (.t 16), []⟩, ⟨1, (some 157), none, .mov (.t 14), []⟩, ⟨2, (some 158), none, .len (.t 157), []⟩, ⟨3, (some 159), none, .bin .lss (.t 156) (.t 158), []⟩]) (.ite (.t 159) .skip (.exit 6))) (.seq (.block 7 (.seq (.ops [⟨0, (some 162), none, .mov (.t 14), []⟩, ⟨1, (some 163), none, .mov (.t 16), []⟩, ⟨2, (some 164), none, .mov (.t 16), []⟩, ⟨3, (some 165), none, .bin .mul (.c (.int .i64 3)) (.t 164), []⟩, ⟨4, (some 166), none, .ixs 1 (.t 162) (.t 163), []⟩, ⟨5, none, none, .st (.t 166) (.t 165), []⟩]) (.ops [⟨0, (some 167), none, .mov (.t 15), []⟩, ⟨1, (some 168), none, .mov (.t 16), []⟩, ⟨2, (some 169), none, .ixs 1 (.t 167) (.t 168), []⟩, ⟨3, none, none, .st (.t 169) (.c (.int .u8 7)), []⟩]))) (.ops [⟨0, (some 160), none, .mov (.t 16), []⟩, ⟨1, (some 161), none, .bin .add (.t 160) (.c (.int .i64 1)), []⟩, ⟨2, (some 16), none, .mov (.t 161), []⟩])))))) (.seq (.ops [⟨0, (some 171), none, .fad 1 (.t 1), []⟩, ⟨1, (some 172), none, .ld (.t 171), []⟩, ⟨2, (some 173), none, .mov (.t 14), []⟩, ⟨3, (some 174), none, .mov (.t 15), []⟩, ⟨4, (some 175), none, .call (.c (.func (.func 19) #[] #[])) [.t 172, .t 173, .t 174], []⟩, ⟨5, (some 170), none, .mov (.t 175), []⟩, ⟨6, (some 176), none, .ext (.t 170) 0, []⟩, ⟨7, (some 177), none, .ext (.t 170) 1, []⟩, ⟨8, (some 178), none, .ext (.t 170) 2, []⟩, ⟨9, (some 17), none, .mov (.t 176), []⟩, ⟨10, (some 18), none, .mov (.t 177), []⟩, ⟨11, (some 19), none, .mov (.t 178), []⟩]) (.seq (.ops [⟨0, (some 180), none, .fad 1 (.t 1), []⟩, ⟨1, (some 181), none, .ld (.t 180), []⟩, ⟨2, (some 182), none, .mov (.t 14), []⟩, ⟨3, (some 183), none, .mov (.t 15), []⟩, ⟨4, (some 184), none, .call (.c (.func (.func 19) #[] #[])) [.t 181, .t 182, .t 183], []⟩, ⟨5, (some 179), none, .mov (.t 184), []⟩, ⟨6, (some 185), none, .ext (.t 179) 0, []⟩, ⟨7, (some 186), none, .ext (.t 179) 1, []⟩, ⟨8, (some 187), none, .ext (.t 179) 2, []⟩, ⟨9, (some 20), none, .mov (.t 185), []⟩, ⟨10, (some 21), none, .mov (.t 186), []⟩, ⟨11, (some 22), none, .mov (.t 187), []⟩]) (.seq (.ops [⟨0, (some 189), none, .fad 1 (.t 1), []⟩, ⟨1, (some 190), none, .ld (.t 189), []⟩, ⟨2, (some 191), none, .mov (.t 14), []⟩, ⟨3, (some 192), none, .mov (.t 15), []⟩, ⟨4, (some 193), none, .call (.c (.func (.func 16) #[] #[])) [.t 190, .t 191, .t 192], []⟩, ⟨5, (some 188), none, .mov (.t 193), []⟩, ⟨6, (some 194), none, .ext (.t 188) 0, []⟩, ⟨7, (some 195), none, .ext (.t 188) 1, []⟩, ⟨8, (some 23), none, .mov (.t 194), []⟩, ⟨9, (some 24), none, .mov (.t 195), []⟩]) (.seq (.ops [⟨0, (some 197), none, .fad 1 (.t 1), []⟩, ⟨1, (some 198), none, .ld (.t 197), []⟩, ⟨2, (some 199), none, .mov (.t 14), []⟩, ⟨3, (some 200), none, .mov (.t 15), []⟩, ⟨4, (some 201), none, .call (.c (.func (.func 16) #[] #[])) [.t 198, .t 199, .t 200], []⟩, ⟨5, (some 196), none, .mov (.t 201), []⟩, ⟨6, (some 202), none, .ext (.t 196) 0, []⟩, ⟨7, (some 203), none, .ext (.t 196) 1, []⟩, ⟨8, (some 25), none, .mov (.t 202), []⟩, ⟨9, (some 26), none, .mov (.t 203), []⟩]) (.seq (.seq (.ops [⟨0, (some 204), none, .mov (.t 17), []⟩, ⟨1, (some 205), none, .mov (.t 15), []⟩, ⟨2, (some 206), none, .call (.c (.func (.func 17) #[] #[])) [.t 204, .t 205], []⟩, ⟨3, (some 207), none, .un .not (.t 206), []⟩, ⟨4, (some 208), none, .mov (.t 207), []⟩, ⟨5, (some 209), (some (208, false)), .mov (.t 17), []⟩, ⟨6, (some 210), (some (208, false)), .mov (.t 20), []⟩, ⟨7, (some 211), (some (208, false)), .call (.c (.func (.func 17) #[] #[])) [.t 209, .t 210], []⟩, ⟨8, (some 212), (some (208, false)), .un .not (.t 211), []⟩, ⟨9, (some 213), none, .pick (.t 208) (.c (.bool true)) (.t 212), []⟩, ⟨10, (some 214), none, .mov (.t 213), []⟩, ⟨11, (some 215), (some (214, false)), .mov (.t 18), []⟩, ⟨12, (some 216), (some (214, false)), .len (.t 215), []⟩, ⟨13, (some 217), (some (214, false)), .bin .neq (.t 216) (.c (.int .i64 0)), []⟩, ⟨14, (some 218), none, .pick (.t 214) (.c (.bool true)) (.t 217), []⟩, ⟨15, (some 219), none, .mov (.t 218), []⟩, ⟨16, (some 220), (some (219, false)), .mov (.t 21), []⟩, ⟨17, (some 221), (some (219, false)), .len (.t 220), []⟩, ⟨18, (some 222), (some (219, false)), .bin .neq (.t 221) (.c (.int .i64 0)), []⟩, ⟨19, (some 223), none, .pick (.t 219) (.c (.bool true)) (.t 222), []⟩, ⟨20, (some 224), none, .mov (.t 223), []⟩, ⟨21, (some 225), (some (224, false)), .mov (.t 23), []⟩, ⟨22, (some 226), (some (224, false)), .len (.t 225), []⟩, ⟨23, (some 227), (some (224, false)), .fad 2 (.t 1), []⟩, ⟨24, (some 228), (some (224, false)), .ld (.t 227), []⟩, ⟨25, (some 229), (some (224, false)), .bin .neq (.t 226) (.t 228), []⟩, ⟨26, (some 230), none, .pick (.t 224) (.c (.bool true)) (.t 229), []⟩, ⟨27, (some 231), none, .mov (.t 230), []⟩, ⟨28, (some 232), (some (231, false)), .mov (.t 23), []⟩, ⟨29, (some 233), (some (231, false)), .mov (.t 25), []⟩, ⟨30, (some 234), (some (231, false)), .call (.c (.func (.func 17) #[] #[])) [.t 232, .t 233], []⟩, ⟨31, (some 235), (some (231, false)), .un .not (.t 234), []⟩, ⟨32, (some 236), none, .pick (.t 231) (.c (.bool true)) (.t 235), []⟩]) (.ite (.t 236) (.seq (.ops [⟨0, (some 2), none, .mov (.c (.bool false)), []⟩]) .ret) .skip)) (.seq (.seq (.ops [⟨0, (some 27), none, .mov (.c (.int .i64 0)), []⟩]) (.block 8 (.loop (.seq (.seq (.ops [⟨0, (some 237), none, .mov (.t 27), []⟩, ⟨1, (some 238), none, .mov (.t 15), []⟩, ⟨2, (some 239), none, .len (.t 238), []⟩, ⟨3, (some 240), none, .bin .lss (.t 237) (.t 239), []⟩]) (.ite (.t 240) .skip (.exit 8))) (.seq (.block 9 (.seq (.ops [⟨0, (some 243), none, .mov (.t 15), []⟩, ⟨1, (some 244), none, .mov (.t 27), []⟩, ⟨2, (some 245), none, .ixs 1 (.t 243) (.t 244), []⟩, ⟨3, none, none, .st (.t 245) (.c (.int .u8 8)), []⟩]) (.ops [⟨0, (some 246), none, .mov (.t 14), []⟩, ⟨1, (some 247), none, .mov (.t 27), []⟩, ⟨2, (some 248), none, .mov (.t 27), []⟩, ⟨3, (some 249), none, .bin .mul (.c (.int .i64 3)) (.t 248), []⟩, ⟨4, (some 250), none, .bin .add (.t 249) (.c (.int .i64 1)), []⟩, ⟨5, (some 251), none, .ixs 1 (.t 246) (.t 247), []⟩, ⟨6, none, none, .st (.t 251) (.t 250), []⟩]))) (.ops [⟨0, (some 241), none, .mov (.t 27), []⟩, ⟨1, (some 242), none, .bin .add (.t 241) (.c (.int .i64 1)), []⟩, ⟨2, (some 27), none, .mov (.t 242), []⟩])))))) (.seq (.ops [⟨0, (some 253), none, .fad 1 (.t 1), []⟩, ⟨1, (some 254), none, .ld (.t 253), []⟩, ⟨2, (some 255), none, .mov (.t 14), []⟩, ⟨3, (some 256), none, .mov (.t 15), []⟩, ⟨4, (some 257), none, .call (.c (.func (.func 19) #[] #[])) [.t 254, .t 255, .t 256], []⟩, ⟨5, (some 252), none, .mov (.t 257), []⟩, ⟨6, (some 258), none, .ext (.t 252) 0, []⟩, ⟨7, (some 259), none, .ext (.t 252) 1, []⟩, ⟨8, (some 260), none, .ext (.t 252) 2, []⟩, ⟨9, (some 28), none, .mov (.t 258), []⟩, ⟨10, (some 29), none, .mov (.t 259), []⟩, ⟨11, (some 30), none, .mov (.t 260), []⟩]) (.seq (.seq (.ops [⟨0, (some 261), none, .mov (.t 28), []⟩, ⟨1, (some 262), none, .mov (.t 15), []⟩, ⟨2, (some 263), none, .call (.c (.func (.func 17) #[] #[])) [.t 261, .t 262], []⟩, ⟨3, (some 264), none, .un .not (.t 263), []⟩, ⟨4, (some 265), none, .mov (.t 264), []⟩, ⟨5, (some 266), (some (265, false)), .mov (.t 17), []⟩, ⟨6, (some 267), (some (265, false)), .ixs 1 (.t 266) (.c (.int .i64 0)), []⟩, ⟨7, (some 268), (some (265, false)), .ld (.t 267), []⟩, ⟨8, (some 269), (some (265, false)), .bin .neq (.t 268) (.c (.int .u8 7)), []⟩, ⟨9, (some 270), none, .pick (.t 265) (.c (.bool true)) (.t 269), []⟩, ⟨10, (some 271), none, .mov (.t 270), []⟩, ⟨11, (some 272), (some (271, false)), .mov (.t 20), []⟩, ⟨12, (some 273), (some (271, false)), .ixs 1 (.t 272) (.c (.int .i64 0)), []⟩, ⟨13, (some 274), (some (271, false)), .ld (.t 273), []⟩, ⟨14, (some 275), (some (271, false)), .bin .neq (.t 274) (.c (.int .u8 7)), []⟩, ⟨15, (some 276), none, .pick (.t 271) (.c (.bool true)) (.t 275), []⟩]) (.ite (.t 276) (.seq (.ops [⟨0, (some 2), none, .mov (.c (.bool false)), []⟩]) .ret) .skip)) (.seq (.ops [⟨0, (some 277), none, .mov (.t 4), []⟩, ⟨1, (some 278), none, .mov (.t 15), []⟩, ⟨2, (some 279), none, .mov (.t 17), []⟩, ⟨3, (some 280), none, .mov (.t 20), []⟩, ⟨4, (some 281), none, .mov (.t 28), []⟩, ⟨5, (some 282), none, .mov (.t 23), []⟩, ⟨6, (some 283), none, .mov (.t 25), []⟩, ⟨7, (some 284), none, .bsl 25 7 [.slice none 0 0] [(0, (1, .t 277)), (1, (1, .t 278)), (2, (1, .t 279)), (3, (1, .t 280)), (4, (1, .t 281)), (5, (1, .t 282)), (6, (1, .t 283))], []⟩, ⟨8, (some 285), none, .mov (.t 6), []⟩, ⟨9, (some 286), none, .app 25 24 [.slice none 0 0] (.t 284) (.t 285), []⟩, ⟨10, (some 287), none, .mov (.t 7), []⟩, ⟨11, (some 288), none, .app 25 24 [.slice none 0 0] (.t 286) (.t 287), []⟩, ⟨12, (some 31), none, .mov (.t 288), []⟩]) (.seq (.ops [⟨0, (some 289), none, .mov (.t 31), []⟩, ⟨1, (some 290), none, .call (.c (.func (.func 31) #[] #[])) [.t 289], []⟩, ⟨2, (some 2), none, .mov (.t 290), []⟩]) .ret))))))))))))))))))))))))
attribute [irreducible] c_culletlaw19_MendMemory
theorem run_culletlaw19_MendMemory {args : List Value} {w : World} {K : Value → World → Prop} (hn : args.length ≤ 291) (h : WP Try.prog c_culletlaw19_MendMemory (endQ [.t 2] K) (initT args) w) : CallV Try.prog 9 args w K :=
  call_of follows Try.func9 (by kernel_rfl) (by kernel_rfl) hn h
end Go.Proofs.Ytbaljbadlfopgaa.Fw
namespace Go.Proofs.Ytbaljbadlfopgaa.Fw
open Go Go.Fw
theorem evl_c (c x : El 8) : evl [c] x = c := by
  show c + x * 0 = c
  rw [El.mul_zero, El.add_zero]
theorem offP_c {P : List Int} {c : El 8} : offP [c] P (List.replicate P.length c) = [] := by
  refine List.eq_nil_iff_forall_not_mem.2 fun j hj => ?_
  obtain ⟨h1, h2⟩ := offs_mem.1 hj
  refine h2 ?_
  rw [evl_c, nth_get (by rw [List.length_replicate]; exact h1), List.getElem_replicate]
theorem map_c {P : List Int} {c : El 8} : (xsP P).map (evl [c]) = List.replicate P.length c := by
  refine List.ext_getElem (by rw [List.length_map, xsP_len, List.length_replicate]) fun j h1 h2 => ?_
  rw [List.getElem_map, evl_c, List.getElem_replicate]
/-- Values that are all one: they are answered, and nothing is wrong. -/
theorem mend_Column_c (w : World) (K : Nat) (s1 s2 : Value) (P : List Int) (c : El 8) (hc : tr [c] = [c]) (h1 : Sl w s1 P) (h2 : Sl w s2 (List.replicate P.length c)) (hk1 : 1 ≤ K) (hk : K ≤ P.length) (hP : P.length ≤ 256) (ha : asc P P.length) :
    CallV Try.prog 19 [.int .i64 (K : Int), s1, s2] w fun v w' => RowKit.Below w.heap.size w w' ∧ ∃ (sf so : Value), v = .tuple #[sf, so, .int .i64 0] ∧ Ow w.heap.size w' sf (List.replicate P.length c) ∧ Ow w.heap.size w' so ([] : List Int) := by
  refine (mend_Column_near w K s1 s2 P (List.replicate P.length c) [c] h1 h2 hk1 hk hP (List.length_replicate ..) ha hc hk1 (by rw [offP_c]; exact Nat.zero_le _)).mono ?_
  rintro v w' ⟨B, sf, so, rfl, of, oo⟩
  rw [map_c] at of
  rw [offP_c] at oo
  exact ⟨B, sf, so, rfl, of, oo⟩
def p3 (a n : Nat) : List Int := (List.range n).map fun i => ((3 * i + a : Nat) : Int)
theorem p3_len (a n : Nat) : (p3 a n).length = n := by unfold p3; rw [List.length_map, List.length_range]
theorem p3_get {a n i : Nat} (h : i < (p3 a n).length) : (p3 a n)[i] = ((3 * i + a : Nat) : Int) := by
  have h2 : i < ((List.range n).map fun i => ((3 * i + a : Nat) : Int)).length := h
  have : ((List.range n).map fun i => ((3 * i + a : Nat) : Int))[i] = ((3 * i + a : Nat) : Int) := by rw [List.getElem_map, List.getElem_range]
  exact this
theorem p3_asc {a n : Nat} (ha : a ≤ 1) (hn : n ≤ 12) : asc (p3 a n) (p3 a n).length := fun i hi _ => by
  have hl := p3_len a n
  rw [p3_get hi]
  refine ⟨by omega, by omega, fun j hj hji => ?_⟩
  rw [p3_get hj]
  omega
theorem list_eq {l : List Int} {a n : Nat} (hl : l.length = n) (h : ∀ j (hj : j < l.length), l[j] = ((3 * j + a : Nat) : Int)) : l = p3 a n := List.ext_getElem (by rw [hl, p3_len]) fun j h1 h2 => by rw [h j h1, p3_get h2]
theorem rep_eq {l : List (El 8)} {c : El 8} {n : Nat} (hl : l.length = n) (h : ∀ j, j < n → nth l j = c) : l = List.replicate n c := List.ext_getElem (by rw [hl, List.length_replicate]) fun j h1 h2 => by
  have := h j (by omega)
  rw [nth_get h1] at this
  rw [this, List.getElem_replicate]
theorem fill7h (h0 h1 h2 h3 h4 h5 h6 : Hd) : fillL (repL [.slice none 0 0] 7) [(0, 1, Cell.v h0), (1, 1, Cell.v h1), (2, 1, Cell.v h2), (3, 1, Cell.v h3), (4, 1, Cell.v h4), (5, 1, Cell.v h5), (6, 1, Cell.v h6)] = some ([h0, h1, h2, h3, h4, h5, h6].map Cell.v) := by kernel_rfl
/-- Lists apart from each other, their headers in a list of their own: apart finds nothing. -/
theorem apart_end (w w1 w2 : World) (Bd : Nat) (Es : List (Value × List (El 8))) (r : Value) (L9 : Lst Bd Es w1) (hEb : ∀ e ∈ Es, ∀ c, Fw.blk e.1 = some c → w.heap.size ≤ c) (hEl : ∀ e ∈ Es, e.2.length ≤ 1000) (h1 : Bd ≤ w1.heap.size) (hw : w.heap.size ≤ w1.heap.size) (hB : RowKit.Below w1.heap.size w1 w2) (hF : RowKit.Below w.heap.size w w2) (hr : Ow w1.heap.size w2 r (Es.map fun e => hd e.1)) (hl0 : 0 < Es.length) (hl : Es.length ≤ 250) :
    CallV Try.prog 31 [r] w2 fun v w' => v = .bool true ∧ RowKit.Below w.heap.size w w' := by
  obtain ⟨hap, hRof⟩ := L9.rof h1 (F := fun u => RowKit.Below w.heap.size w u) hF hB hr
  have hDb : ∀ i (hi : i < (Es.map fun e => hd e.1).length) b, Fw.blk (Cell.v (Es.map fun e => hd e.1)[i]) = some b → w.heap.size ≤ b := fun j hj b hb => by
    have hj' : j < Es.length := by simpa using hj
    rw [List.getElem_map, (L9.ow j _ (List.getElem?_eq_getElem hj')).sl.hd.1] at hb
    exact hEb Es[j] (List.getElem_mem hj') b hb
  have hEl2 : ∀ j, j < (Es.map fun e => hd e.1).length → ((Es.map fun e => e.2).getD j []).length ≤ 1000000 := fun j hj => by
    have hj' : j < Es.length := by simpa using hj
    rw [List.getD_eq_getElem?_getD, List.getElem?_map, List.getElem?_eq_getElem hj']
    have := hEl Es[j] (List.getElem_mem hj')
    show Es[j].2.length ≤ 1000000
    omega
  have hsz := hF.size
  exact culletlaw19_apart_spec w2 Bd (fun u => RowKit.Below w.heap.size w u) (fun b => w.heap.size ≤ b) r (Es.map fun e => hd e.1) (Es.map fun e => e.2) hap (frmB w) hDb (fun b hb => Nat.le_trans hsz hb) hRof hEl2 (by rw [List.length_map]; exact hl0) (by rw [List.length_map]; exact hl)
/-- What the walk through the lost shards leaves: rows of a and of b, the first i gone. -/
theorem cut_rows {f : Int} {K T i : Nat} {G : Nat → List (El 8)} : ∀ j, (if j = i then ([] : List (El 8)) else (if j < i then [] else rowS f K G T j)) = if j < i + 1 then [] else rowS f K G T j := fun j => by
  by_cases e : j = i
  · rw [if_pos e, if_pos (by omega)]
  · rw [if_neg e]
    by_cases e2 : j < i
    · rw [if_pos e2, if_pos (by omega)]
    · rw [if_neg e2, if_neg (by omega)]
set_option maxHeartbeats 16000000 in
theorem culletlaw19_MendMemory_spec (w : World) (f k m : Int) (sd lo wr : Value) (hsd : List Hd) (RS : Nat → List (El 8)) (h : Sl w sd hsd) (hr : ∀ j (hj : j < hsd.length), Sl w (Cell.v hsd[j]) (RS j)) :
    CallV Try.prog 9 [.agg #[.int .i64 f, .int .i64 k, .int .i64 m, sd, lo, wr]] w fun v w' => v = .bool true ∧ RowKit.Below w.heap.size w w' := by
  refine run_culletlaw19_MendMemory (by simp) ?_
  simp only [c_culletlaw19_MendMemory, WS, List.getElem_cons_zero, List.getElem_cons_succ, Option.isNone_some, Option.isNone_none, List.getD_cons_zero, List.getD_cons_succ, I.at, atL, atO, atP, evp, evs, retV, ↓reduceIte, Nat.reduceEqDiff, reduceCtorEq]
  refine X_box fun b w1 hrb hlb hB => ?_
  have hrb : Row w1 b [.int .i64 f, .int .i64 k, .int .i64 m, sd, lo, wr] := hrb
  have B := hB
  have hr := fun j hj => (hr j hj).up hB
  have h := h.up hB
  clear hB hlb
  simp (maxSteps := 1000000) (disch := omega) only [WS, List.getElem_cons_zero, List.getElem_cons_succ, Option.isNone_some, Option.isNone_none, List.getD_cons_zero, List.getD_cons_succ, I.at, atL, atO, atP, evp, evs, retV, ↓reduceIte, Nat.reduceEqDiff, reduceCtorEq, AS]
  refine X_call0 ((culletlaw19_awake_spec w1).mono ?_)
  rintro _ w2 ⟨rfl, hB⟩
  have hr := fun j hj => (hr j hj).up hB
  have h := h.up hB
  have hrb := hrb.up hB
  have B := B.trans (hB.mono B.size)
  clear hB
  simp (maxSteps := 1000000) (disch := omega) only [WS, List.getElem_cons_zero, List.getElem_cons_succ, Option.isNone_some, Option.isNone_none, List.getD_cons_zero, List.getD_cons_succ, I.at, atL, atO, atP, evp, evs, retV, ↓reduceIte, Nat.reduceEqDiff, reduceCtorEq, AS, hrb.Xld (show 0 < _ by simp), hrb.Xld (show 1 < _ by simp), hrb.Xld (show 2 < _ by simp)]
  refine X_call0 ((culletlaw19_valid_spec w2 f k m).mono ?_)
  rintro _ w3 ⟨rfl, rfl⟩
  by_cases hv : (f = 0 ∨ f = 1) ∧ 1 ≤ k ∧ 1 ≤ m ∧ k ≤ 256 ∧ m ≤ 256 ∧ k + m ≤ 256
  rotate_left
  · simp (maxSteps := 1000000) (disch := omega) only [WS, List.getElem_cons_zero, List.getElem_cons_succ, Option.isNone_some, Option.isNone_none, List.getD_cons_zero, List.getD_cons_succ, I.at, atL, atO, atP, evp, evs, retV, ↓reduceIte, Nat.reduceEqDiff, reduceCtorEq, AS, decide_eq_false hv]
    exact B
  obtain ⟨hf, hk1, hm1, hk2, hm2, hkm⟩ := hv
  obtain ⟨K, rfl⟩ : ∃ K : Nat, k = (K : Int) := ⟨k.toNat, by omega⟩
  obtain ⟨M, rfl⟩ : ∃ M : Nat, m = (M : Int) := ⟨m.toNat, by omega⟩
  rw [decide_eq_true (⟨hf, hk1, hm1, hk2, hm2, hkm⟩ : (f = 0 ∨ f = 1) ∧ 1 ≤ (K : Int) ∧ 1 ≤ (M : Int) ∧ (K : Int) ≤ 256 ∧ (M : Int) ≤ 256 ∧ (K : Int) + (M : Int) ≤ 256)]
  by_cases hT0 : hsd.length = 0
  · simp (maxSteps := 1000000) (disch := omega) only [WS, List.getElem_cons_zero, List.getElem_cons_succ, Option.isNone_some, Option.isNone_none, List.getD_cons_zero, List.getD_cons_succ, I.at, atL, atO, atP, evp, evs, retV, ↓reduceIte, Nat.reduceEqDiff, reduceCtorEq, AS, hrb.Xld (show 3 < _ by simp), h.Xlen, hT0, show decide (((0 : Nat) : Int) = 0) = true from rfl]
    exact B
  have hT0' : ¬ (hsd.length : Int) = 0 := by omega
  by_cases hT2 : hsd.length > 16
  · simp (maxSteps := 1000000) (disch := omega) only [WS, List.getElem_cons_zero, List.getElem_cons_succ, Option.isNone_some, Option.isNone_none, List.getD_cons_zero, List.getD_cons_succ, I.at, atL, atO, atP, evp, evs, retV, ↓reduceIte, Nat.reduceEqDiff, reduceCtorEq, AS, hrb.Xld (show 3 < _ by simp), h.Xlen, hT0']
    exact B
  have eKM : IntKind.i64.wrap ((K : Int) + (M : Int)) = ((K + M : Nat) : Int) := by rw [wrap_id (by omega) (by omega)]; omega
  by_cases hbig : K + M > 12
  · simp (maxSteps := 1000000) (disch := omega) only [WS, List.getElem_cons_zero, List.getElem_cons_succ, Option.isNone_some, Option.isNone_none, List.getD_cons_zero, List.getD_cons_succ, I.at, atL, atO, atP, evp, evs, retV, ↓reduceIte, Nat.reduceEqDiff, reduceCtorEq, AS, hrb.Xld (show 1 < _ by simp), hrb.Xld (show 2 < _ by simp), hrb.Xld (show 3 < _ by simp), h.Xlen, hT0', eKM]
    exact B
  simp (maxSteps := 1000000) (disch := omega) only [WS, List.getElem_cons_zero, List.getElem_cons_succ, Option.isNone_some, Option.isNone_none, List.getD_cons_zero, List.getD_cons_succ, I.at, atL, atO, atP, evp, evs, retV, ↓reduceIte, Nat.reduceEqDiff, reduceCtorEq, AS, hrb.Xld (show 1 < _ by simp), hrb.Xld (show 2 < _ by simp), hrb.Xld (show 3 < _ by simp), h.Xlen, hT0', eKM, hrb.Xldn (n := 6) rfl]
  refine X_call0 ((culletlaw19_made_spec w3 f K M sd lo wr hsd RS h hr hf (by omega) (by omega) (by omega) (by omega) (by omega)).mono ?_)
  rintro sW w4 ⟨hB, hsW, G, lhW, hG, hW⟩
  have h := h.up hB
  have hrb := hrb.up hB
  have B := B.trans (hB.mono B.size)
  clear hB
  clear hr
  have hw4 := B.size
  obtain ⟨T, hT⟩ : ∃ T, T = hsd.length := ⟨_, rfl⟩
  rw [← hT] at hG hW
  simp (maxSteps := 1000000) (disch := omega) only [WS, List.getElem_cons_zero, List.getElem_cons_succ, Option.isNone_some, Option.isNone_none, List.getD_cons_zero, List.getD_cons_succ, I.at, atL, atO, atP, evp, evs, retV, ↓reduceIte, Nat.reduceEqDiff, reduceCtorEq, AS, hrb.Xld (show 3 < _ by simp), h.Xlen, ← hT]
  refine X_mks (x := (0 : El 8)) (n := T) (by simp only [maxBytes]; omega) (by omega) fun so w5 oo hB5 => ?_
  have hob : ∀ c, Fw.blk so = some c → w4.heap.size ≤ c ∧ c < w5.heap.size := fun c hc => oo.blk c hc
  have lrep : ((List.replicate T (0 : El 8)).length : Int) = (T : Int) := by rw [List.length_replicate]
  simp (maxSteps := 1000000) (disch := omega) only [WS, List.getElem_cons_zero, List.getElem_cons_succ, Option.isNone_some, Option.isNone_none, List.getD_cons_zero, List.getD_cons_succ, I.at, atL, atO, atP, evp, evs, retV, ↓reduceIte, Nat.reduceEqDiff, reduceCtorEq, AS]
  refine loop_of (fun t w' => t 1 = .pointer (some ⟨b, 0, none⟩) ∧ t 3 = sW ∧ t 4 = so ∧ RowKit.Below w4.heap.size w4 w' ∧ w5.heap.size ≤ w'.heap.size ∧ ∃ (i : Nat) (OL : List (El 8)), t 5 = .int .i64 (i : Int) ∧ i ≤ T ∧ OL.length = T ∧ (∀ j, j < i → nth OL j = en8 99) ∧ Ow w4.heap.size w' so OL) (fun t _ => T - (toI (t 5)).toNat)
    ⟨by simp only [WS, List.getElem_cons_zero, List.getElem_cons_succ, Option.isNone_some, Option.isNone_none, List.getD_cons_zero, List.getD_cons_succ, I.at, atL, atO, atP, evp, evs, retV, ↓reduceIte, Nat.reduceEqDiff, reduceCtorEq], by simp only [WS, List.getElem_cons_zero, List.getElem_cons_succ, Option.isNone_some, Option.isNone_none, List.getD_cons_zero, List.getD_cons_succ, I.at, atL, atO, atP, evp, evs, retV, ↓reduceIte, Nat.reduceEqDiff, reduceCtorEq], by simp only [WS, List.getElem_cons_zero, List.getElem_cons_succ, Option.isNone_some, Option.isNone_none, List.getD_cons_zero, List.getD_cons_succ, I.at, atL, atO, atP, evp, evs, retV, ↓reduceIte, Nat.reduceEqDiff, reduceCtorEq], hB5, Nat.le_refl _, 0, _, by simp only [WS, List.getElem_cons_zero, List.getElem_cons_succ, Option.isNone_some, Option.isNone_none, List.getD_cons_zero, List.getD_cons_succ, I.at, atL, atO, atP, evp, evs, retV, ↓reduceIte, Nat.reduceEqDiff, reduceCtorEq]; rfl, by omega, List.length_replicate .., fun j hj => absurd hj (Nat.not_lt_zero _), oo⟩ ?_
  clear oo hB5
  rintro t w6 ⟨t1, t3, t4, B6, z56, i, OL, t5, hi, lOL, hOL, oo⟩
  have lOLi : ((OL.length : Nat) : Int) = (T : Int) := by rw [lOL]
  by_cases hiT : i < T
  · have io : i < OL.length := by omega
    simp (maxSteps := 1000000) (disch := omega) only [WS, List.getElem_cons_zero, List.getElem_cons_succ, Option.isNone_some, Option.isNone_none, List.getD_cons_zero, List.getD_cons_succ, I.at, atL, atO, atP, evp, evs, retV, ↓reduceIte, Nat.reduceEqDiff, reduceCtorEq, AS, t1, t3, t4, t5, oo.sl.Xlen, lOLi, oo.sl.Xix io]
    refine Ow.Xst oo io (en8 99) fun w7 oo2 hg => ?_
    have B6 := Below.app B6 B6.size hg fun c hc => (oo.blk c hc).1
    simp (maxSteps := 1000000) (disch := omega) only [WS, List.getElem_cons_zero, List.getElem_cons_succ, Option.isNone_some, Option.isNone_none, List.getD_cons_zero, List.getD_cons_succ, I.at, atL, atO, atP, evp, evs, retV, ↓reduceIte, Nat.reduceEqDiff, reduceCtorEq, AS, t1, t3, t4, t5]
    refine ⟨⟨B6, Nat.le_trans z56 hg.size, i + 1, _, rfl, by omega, by rw [List.length_set]; exact lOL, fun j hj => ?_, oo2⟩, by omega⟩
    rw [nth_set io]
    split
    · rfl
    · exact hOL j (by omega)
  obtain rfl : i = T := by omega
  have hOLe : OL = List.replicate i (en8 99) := rep_eq lOL hOL
  subst hOLe
  have hW6 := hW.up (frmT fun _ => True) B6
  have hrb6 := hrb.up B6
  have B := B.trans (B6.mono B.size)
  have z46 := B6.size
  simp (maxSteps := 1000000) (disch := omega) only [WS, List.getElem_cons_zero, List.getElem_cons_succ, Option.isNone_some, Option.isNone_none, List.getD_cons_zero, List.getD_cons_succ, I.at, atL, atO, atP, evp, evs, retV, ↓reduceIte, Nat.reduceEqDiff, reduceCtorEq, AS, t1, t3, t4, t5, oo.sl.Xlen, lOLi]
  refine X_call0 ((culletlaw19_twin_spec w6 sW hsW (rowS f K G i) hW6.top.sl (fun j hj => hW6.sl hj) (by omega) (fun j hj => by rw [rowS_len]; omega)).mono ?_)
  rintro sa w7 ⟨hB7, hsA, lhA, hA⟩
  have hW7 := hW6.up (frmT fun _ => True) hB7
  have z7 := hB7.size
  simp (maxSteps := 1000000) (disch := omega) only [WS, List.getElem_cons_zero, List.getElem_cons_succ, Option.isNone_some, Option.isNone_none, List.getD_cons_zero, List.getD_cons_succ, I.at, atL, atO, atP, evp, evs, retV, ↓reduceIte, Nat.reduceEqDiff, reduceCtorEq, AS, t1, t3, t4]
  refine X_call0 ((culletlaw19_twin_spec w7 sW hsW (rowS f K G i) hW7.top.sl (fun j hj => hW7.sl hj) (by omega) (fun j hj => by rw [rowS_len]; omega)).mono ?_)
  rintro sb w8 ⟨hB8, hsB, lhB, hBb⟩
  have hA8 := hA.up (frmT fun _ => True) hB8
  have z8 := hB8.size
  have hAt : ∀ c, Fw.blk sa = some c → w6.heap.size ≤ c ∧ c < w7.heap.size := fun c hc => hA.top.blk c hc
  have hAr : ∀ j (hj : j < hsA.length) c, Fw.blk (Cell.v hsA[j]) = some c → w6.heap.size ≤ c ∧ c < w7.heap.size := fun j hj c hc => by
    obtain ⟨d, hd, h1, h2⟩ := (hA.row j hj (ne_of_len (rowS_len f K G i j) (by omega))).blk
    rw [hc] at hd; cases hd; exact ⟨h1, h2⟩
  have hBt : ∀ c, Fw.blk sb = some c → w7.heap.size ≤ c ∧ c < w8.heap.size := fun c hc => hBb.top.blk c hc
  have hBr : ∀ j (hj : j < hsB.length) c, Fw.blk (Cell.v hsB[j]) = some c → w7.heap.size ≤ c ∧ c < w8.heap.size := fun j hj c hc => by
    obtain ⟨d, hd, h1, h2⟩ := (hBb.row j hj (ne_of_len (rowS_len f K G i j) (by omega))).blk
    rw [hc] at hd; cases hd; exact ⟨h1, h2⟩
  have hrn : ∀ j, rowS f K G i j ≠ [] := fun j => ne_of_len (rowS_len f K G i j) (by omega)
  simp (maxSteps := 1000000) (disch := omega) only [WS, List.getElem_cons_zero, List.getElem_cons_succ, Option.isNone_some, Option.isNone_none, List.getD_cons_zero, List.getD_cons_succ, I.at, atL, atO, atP, evp, evs, retV, ↓reduceIte, Nat.reduceEqDiff, reduceCtorEq, AS, t1, t3, t4]
  refine loop_of (fun t w' => t 1 = .pointer (some ⟨b, 0, none⟩) ∧ t 3 = sW ∧ t 4 = so ∧ t 6 = sa ∧ t 7 = sb ∧ RowKit.Below w6.heap.size w6 w' ∧ w8.heap.size ≤ w'.heap.size ∧ ∃ (q : Nat) (hA' hB' : List Hd), t 8 = .int .i64 (q : Int) ∧ q ≤ M ∧ hA'.length = K + M ∧ hB'.length = K + M ∧ ShM w6.heap.size (fun _ => True) (fun _ => []) sa hA' (fun j => if j < q then [] else rowS f K G i j) w' ∧ ShM w7.heap.size (fun _ => True) (fun _ => []) sb hB' (fun j => if j < q then [] else rowS f K G i j) w' ∧ (∀ j (hj : j < hsA.length) (hj' : j < hA'.length), q ≤ j → hA'[j] = hsA[j]) ∧ (∀ j (hj : j < hsB.length) (hj' : j < hB'.length), q ≤ j → hB'[j] = hsB[j])) (fun t _ => M - (toI (t 8)).toNat)
    ⟨by simp only [WS, List.getElem_cons_zero, List.getElem_cons_succ, Option.isNone_some, Option.isNone_none, List.getD_cons_zero, List.getD_cons_succ, I.at, atL, atO, atP, evp, evs, retV, ↓reduceIte, Nat.reduceEqDiff, reduceCtorEq]; exact t1, by simp only [WS, List.getElem_cons_zero, List.getElem_cons_succ, Option.isNone_some, Option.isNone_none, List.getD_cons_zero, List.getD_cons_succ, I.at, atL, atO, atP, evp, evs, retV, ↓reduceIte, Nat.reduceEqDiff, reduceCtorEq]; exact t3, by simp only [WS, List.getElem_cons_zero, List.getElem_cons_succ, Option.isNone_some, Option.isNone_none, List.getD_cons_zero, List.getD_cons_succ, I.at, atL, atO, atP, evp, evs, retV, ↓reduceIte, Nat.reduceEqDiff, reduceCtorEq]; exact t4, by simp only [WS, List.getElem_cons_zero, List.getElem_cons_succ, Option.isNone_some, Option.isNone_none, List.getD_cons_zero, List.getD_cons_succ, I.at, atL, atO, atP, evp, evs, retV, ↓reduceIte, Nat.reduceEqDiff, reduceCtorEq], by simp only [WS, List.getElem_cons_zero, List.getElem_cons_succ, Option.isNone_some, Option.isNone_none, List.getD_cons_zero, List.getD_cons_succ, I.at, atL, atO, atP, evp, evs, retV, ↓reduceIte, Nat.reduceEqDiff, reduceCtorEq], hB7.trans (hB8.mono z7), Nat.le_refl _, 0, hsA, hsB, by simp only [WS, List.getElem_cons_zero, List.getElem_cons_succ, Option.isNone_some, Option.isNone_none, List.getD_cons_zero, List.getD_cons_succ, I.at, atL, atO, atP, evp, evs, retV, ↓reduceIte, Nat.reduceEqDiff, reduceCtorEq]; rfl, by omega, by omega, by omega, hA8.congr fun j hj => by rw [if_neg (by omega)], hBb.congr fun j hj => by rw [if_neg (by omega)], fun _ _ _ _ => rfl, fun _ _ _ _ => rfl⟩ ?_
  clear t1 t3 t4 t5 hA hA8 hBb hW7 hB7 hB8
  rintro t w9 ⟨t1, t3, t4, t6, t7, E, z9, q, hA', hB', t8, hq, lA', lB', hA, hBb, kA, kB⟩
  have hrb9 := hrb6.up E
  by_cases hqM : q < M
  · have iA : q < hA'.length := by omega
    have iB : q < hB'.length := by omega
    have oo9 := oo.up E
    have eS : ∀ (d : Option Nat) (l : List D) (Q : T → World → Prop) (t : T) (w' : World), XW Try.prog (.slc 1 (.c so) none (some (.c (.int .i64 0))) none) d l Q t w' = W Try.prog Q l (put t d (Fw.sub so 0 0)) w' := fun d l Q t w' => oo9.sl.XslcHi (k' := .i64) (hi := 0) (Nat.zero_le _) _ d l Q t w'
    have hsub := oo9.sl.sub (lo := 0) (hi := 0) (Nat.le_refl _) (Nat.zero_le _)
    have hcv : Cell.v (hd (Fw.sub so 0 0)) = Fw.sub so 0 0 := hsub.hd.1
    have hcn : (hd (Fw.sub so 0 0)).n = 0 := by rw [hsub.hd.2]; simp
    simp (maxSteps := 1000000) (disch := omega) only [WS, List.getElem_cons_zero, List.getElem_cons_succ, Option.isNone_some, Option.isNone_none, List.getD_cons_zero, List.getD_cons_succ, I.at, atL, atO, atP, evp, evs, retV, ↓reduceIte, Nat.reduceEqDiff, reduceCtorEq, AS, t1, t3, t4, t6, t7, t8, hrb9.Xld (show 2 < _ by simp), eS, hA.top.sl.Xix iA]
    rw [← hcv]
    refine ShM.Xcut (frmT fun _ => True) hA iA (fun _ _ => trivial) (hd (Fw.sub so 0 0)) hcn fun w10 c hA10 hg hc => ?_
    have hc' := hAt c hc
    have E10 := E.grown hg E.size fun x hx => by cases hx; exact hc'.1
    have hBb10 := shOff (F' := fun _ => True) hBb hg (fun e => by have := hBt c e; omega) (fun j hj hn e => by
      by_cases ejq : q ≤ j
      · rw [kB j (by omega) hj ejq] at e
        have := hBr j (by omega) c e
        omega
      · simp only [if_pos (show j < q by omega)] at hn; exact hn rfl) trivial
    have zg := hg.size
    simp (maxSteps := 1000000) (disch := omega) only [WS, List.getElem_cons_zero, List.getElem_cons_succ, Option.isNone_some, Option.isNone_none, List.getD_cons_zero, List.getD_cons_succ, I.at, atL, atO, atP, evp, evs, retV, ↓reduceIte, Nat.reduceEqDiff, reduceCtorEq, AS, t1, t3, t4, t6, t7, t8, hBb10.top.sl.Xix iB]
    refine ShM.Xcut (frmT fun _ => True) hBb10 iB (fun _ _ => trivial) hdn rfl fun w11 c2 hB11 hg2 hc2 => ?_
    have hc2' := hBt c2 hc2
    have E11 := E10.grown hg2 E10.size fun x hx => by cases hx; omega
    have hA11 := shOff (F' := fun _ => True) hA10 hg2 (fun e => by have := hAt c2 e; omega) (fun j hj hn e => by
      rw [cut_rows] at hn
      have hj2 : j < hA'.length := by rw [List.length_set] at hj; exact hj
      by_cases ejq : q + 1 ≤ j
      · rw [List.getElem_set_ne (by omega), kA j (by omega) hj2 (by omega)] at e
        have := hAr j (by omega) c2 e
        omega
      · rw [if_pos (show j < q + 1 by omega)] at hn; exact hn rfl) trivial
    have zg2 := hg2.size
    simp (maxSteps := 1000000) (disch := omega) only [WS, List.getElem_cons_zero, List.getElem_cons_succ, Option.isNone_some, Option.isNone_none, List.getD_cons_zero, List.getD_cons_succ, I.at, atL, atO, atP, evp, evs, retV, ↓reduceIte, Nat.reduceEqDiff, reduceCtorEq, AS, t1, t3, t4, t6, t7, t8]
    refine ⟨⟨E11, by omega, q + 1, _, _, rfl, by omega, by rw [List.length_set]; exact lA', by rw [List.length_set]; exact lB', hA11.congr fun j hj => (cut_rows j).symm, hB11.congr fun j hj => (cut_rows j).symm, fun j hj hj' hjq => ?_, fun j hj hj' hjq => ?_⟩, by omega⟩
    · rw [List.getElem_set_ne (by omega)]; exact kA j hj (by rw [List.length_set] at hj'; exact hj') (by omega)
    · rw [List.getElem_set_ne (by omega)]; exact kB j hj (by rw [List.length_set] at hj'; exact hj') (by omega)
  obtain rfl : q = M := by omega
  have hA'b : ∀ j (hj : j < hA'.length) c, q ≤ j → Fw.blk (Cell.v hA'[j]) = some c → w6.heap.size ≤ c ∧ c < w7.heap.size := fun j hj c hjq hc => by
    rw [kA j (by omega) hj hjq] at hc
    exact hAr j (by omega) c hc
  have hB'b : ∀ j (hj : j < hB'.length) c, q ≤ j → Fw.blk (Cell.v hB'[j]) = some c → w7.heap.size ≤ c ∧ c < w8.heap.size := fun j hj c hjq hc => by
    rw [kB j (by omega) hj hjq] at hc
    exact hBr j (by omega) c hc
  have hAf := hA.frame (F' := fun w' => Out w6.heap.size w7.heap.size w9 w' ∧ RowKit.Below w6.heap.size w6 w') ⟨Out.refl _ _ _, E⟩
  simp (maxSteps := 1000000) (disch := omega) only [WS, List.getElem_cons_zero, List.getElem_cons_succ, Option.isNone_some, Option.isNone_none, List.getD_cons_zero, List.getD_cons_succ, I.at, atL, atO, atP, evp, evs, retV, ↓reduceIte, Nat.reduceEqDiff, reduceCtorEq, AS, t1, t3, t4, t6, t7, t8, hrb9.Xld (show 0 < _ by simp), hrb9.Xld (show 1 < _ by simp), hrb9.Xld (show 2 < _ by simp)]
  refine X_call0 ((mend_Shards_back w9 f K q i sa hA' G hf (by omega) (by omega) (by omega) (by omega) (by omega) lA' hG (frmO w9 w6 w6.heap.size w7.heap.size (Nat.le_refl _)) hAf (by omega) (fun j hj c hc hjq => hA'b j hj c hjq hc) (fun c hc => hAt c hc)).mono ?_)
  rintro _ w10 ⟨z10, swA, hA2, rfl, lA2, hA10, kA2, nA2⟩
  obtain ⟨oA, E10⟩ := hA10.frm
  have hrb10 := hrb6.up E10
  have hB10 := shOut (F' := fun w' => Out w7.heap.size w8.heap.size w10 w' ∧ RowKit.Below w6.heap.size w6 w') hBb oA (fun c hc => Or.inr (hBt c hc).1) (fun j hj hn c hc => Or.inr (by
    by_cases hjq : q ≤ j
    · exact (hB'b j hj c hjq hc).1
    · simp only [if_pos (show j < q by omega)] at hn; exact absurd rfl hn)) ⟨Out.refl _ _ _, E10⟩
  simp (maxSteps := 1000000) (disch := omega) only [WS, List.getElem_cons_zero, List.getElem_cons_succ, Option.isNone_some, Option.isNone_none, List.getD_cons_zero, List.getD_cons_succ, I.at, atL, atO, atP, evp, evs, retV, ↓reduceIte, Nat.reduceEqDiff, reduceCtorEq, AS, t1, t3, t4, t6, t7, show decide ((0 : Int) ≠ 0) = false from rfl, hrb10.Xld (show 0 < _ by simp), hrb10.Xld (show 1 < _ by simp), hrb10.Xld (show 2 < _ by simp)]
  refine X_call0 ((mend_Shards_back w10 f K q i sb hB' G hf (by omega) (by omega) (by omega) (by omega) (by omega) lB' hG (frmO w10 w6 w7.heap.size w8.heap.size z7) hB10 (by omega) (fun j hj c hc hjq => hB'b j hj c hjq hc) (fun c hc => hBt c hc)).mono ?_)
  rintro _ w11 ⟨z11, swB, hB2, rfl, lB2, hB11, kB2, nB2⟩
  obtain ⟨oB, E11⟩ := hB11.frm
  have hA2b : ∀ j (hj : j < hA2.length) c, Fw.blk (Cell.v hA2[j]) = some c → (w6.heap.size ≤ c ∧ c < w7.heap.size) ∨ (w9.heap.size ≤ c ∧ c < w10.heap.size) := fun j hj c hc => by
    by_cases hjq : q ≤ j
    · rw [kA2 j (by omega) hj hjq] at hc
      exact Or.inl (hA'b j (by omega) c hjq hc)
    · have h1 := nA2 j hj (by omega) c hc
      obtain ⟨d, hd, -, h2⟩ := (hA10.row j hj (hrn j)).blk
      rw [hc] at hd; cases hd
      exact Or.inr ⟨h1, h2⟩
  have hB2b : ∀ j (hj : j < hB2.length) c, Fw.blk (Cell.v hB2[j]) = some c → (w7.heap.size ≤ c ∧ c < w8.heap.size) ∨ (w10.heap.size ≤ c ∧ c < w11.heap.size) := fun j hj c hc => by
    by_cases hjq : q ≤ j
    · rw [kB2 j (by omega) hj hjq] at hc
      exact Or.inl (hB'b j (by omega) c hjq hc)
    · have h1 := nB2 j hj (by omega) c hc
      obtain ⟨d, hd, -, h2⟩ := (hB11.row j hj (hrn j)).blk
      rw [hc] at hd; cases hd
      exact Or.inr ⟨h1, h2⟩
  have hA11 := shOut (F' := fun _ => True) hA10 oB (fun c hc => by have := hAt c hc; omega) (fun j hj _ c hc => by have := hA2b j hj c hc; omega) trivial
  have hB11 := hB11.frame (F' := fun _ => True) trivial
  have hW11 := hW6.up (frmT fun _ => True) E11
  have oo11 := oo.up E11
  have hrb11 := hrb6.up E11
  have B := B.trans (E11.mono B.size)
  clear hA hBb hAf hA10 hB10 oA oB E E10 hrb9 hrb10 kA kB hAr hBr kA2 nA2 kB2 nB2 hA'b hB'b
  simp (maxSteps := 1000000) (disch := omega) only [WS, List.getElem_cons_zero, List.getElem_cons_succ, Option.isNone_some, Option.isNone_none, List.getD_cons_zero, List.getD_cons_succ, I.at, atL, atO, atP, evp, evs, retV, ↓reduceIte, Nat.reduceEqDiff, reduceCtorEq, AS, t1, t3, t4, t6, t7, show decide ((0 : Int) ≠ 0) = false from rfl]
  refine X_call0 ((culletlaw19_same_spec w11 sa sW hA2 hsW (rowS f K G i) (rowS f K G i) hA11.top.sl hW11.top.sl (fun j hj => hA11.sl hj) (fun j hj => hW11.sl hj) (by omega) (by omega) (fun j hj => by rw [rowS_len]; omega) (fun j hj => by rw [rowS_len]; omega)).mono ?_)
  rintro _ w12 ⟨hB, -, bb, rfl, hbb⟩
  have z12 := hB.size
  have hA11 := hA11.up (frmT fun _ => True) hB
  have hB11 := hB11.up (frmT fun _ => True) hB
  have hW11 := hW11.up (frmT fun _ => True) hB
  have oo11 := oo11.up hB
  have hrb11 := hrb11.up hB
  have B := B.trans (hB.mono B.size)
  clear hB
  simp (maxSteps := 1000000) (disch := omega) only [WS, List.getElem_cons_zero, List.getElem_cons_succ, Option.isNone_some, Option.isNone_none, List.getD_cons_zero, List.getD_cons_succ, I.at, atL, atO, atP, evp, evs, retV, ↓reduceIte, Nat.reduceEqDiff, reduceCtorEq, AS, t1, t3, t4, t6, t7, hbb.2 ⟨by omega, fun j hj => rfl⟩]
  refine X_call0 ((culletlaw19_same_spec w12 sb sW hB2 hsW (rowS f K G i) (rowS f K G i) hB11.top.sl hW11.top.sl (fun j hj => hB11.sl hj) (fun j hj => hW11.sl hj) (by omega) (by omega) (fun j hj => by rw [rowS_len]; omega) (fun j hj => by rw [rowS_len]; omega)).mono ?_)
  rintro _ w13 ⟨hB, -, bb2, rfl, hbb2⟩
  have z13 := hB.size
  have hA11 := hA11.up (frmT fun _ => True) hB
  have hB11 := hB11.up (frmT fun _ => True) hB
  have oo11 := oo11.up hB
  have hrb11 := hrb11.up hB
  have B := B.trans (hB.mono B.size)
  clear hB
  clear hW11 hW6 hW
  simp (maxSteps := 1000000) (disch := omega) only [WS, List.getElem_cons_zero, List.getElem_cons_succ, Option.isNone_some, Option.isNone_none, List.getD_cons_zero, List.getD_cons_succ, I.at, atL, atO, atP, evp, evs, retV, ↓reduceIte, Nat.reduceEqDiff, reduceCtorEq, AS, t1, t3, t4, t6, t7, hbb2.2 ⟨by omega, fun j hj => rfl⟩]
  have e99 : (((en8 99).v.toNat : Nat) : Int) = 99 := by rw [en8_v (by decide)]; rfl
  have lo99 : (((List.replicate i (en8 99)).length : Nat) : Int) = (i : Int) := by rw [List.length_replicate]
  refine loop_of (fun t w' => w' = w13 ∧ t 1 = .pointer (some ⟨b, 0, none⟩) ∧ t 4 = so ∧ t 6 = sa ∧ t 7 = sb ∧ ∃ x : Nat, t 13 = .int .i64 (x : Int) ∧ x ≤ i) (fun t _ => i - (toI (t 13)).toNat)
    ⟨rfl, by simp only [WS, List.getElem_cons_zero, List.getElem_cons_succ, Option.isNone_some, Option.isNone_none, List.getD_cons_zero, List.getD_cons_succ, I.at, atL, atO, atP, evp, evs, retV, ↓reduceIte, Nat.reduceEqDiff, reduceCtorEq]; exact t1, by simp only [WS, List.getElem_cons_zero, List.getElem_cons_succ, Option.isNone_some, Option.isNone_none, List.getD_cons_zero, List.getD_cons_succ, I.at, atL, atO, atP, evp, evs, retV, ↓reduceIte, Nat.reduceEqDiff, reduceCtorEq]; exact t4, by simp only [WS, List.getElem_cons_zero, List.getElem_cons_succ, Option.isNone_some, Option.isNone_none, List.getD_cons_zero, List.getD_cons_succ, I.at, atL, atO, atP, evp, evs, retV, ↓reduceIte, Nat.reduceEqDiff, reduceCtorEq]; exact t6, by simp only [WS, List.getElem_cons_zero, List.getElem_cons_succ, Option.isNone_some, Option.isNone_none, List.getD_cons_zero, List.getD_cons_succ, I.at, atL, atO, atP, evp, evs, retV, ↓reduceIte, Nat.reduceEqDiff, reduceCtorEq]; exact t7, 0, by simp only [WS, List.getElem_cons_zero, List.getElem_cons_succ, Option.isNone_some, Option.isNone_none, List.getD_cons_zero, List.getD_cons_succ, I.at, atL, atO, atP, evp, evs, retV, ↓reduceIte, Nat.reduceEqDiff, reduceCtorEq]; rfl, by omega⟩ ?_
  clear t1 t3 t4 t6 t7 t8
  rintro t w14 ⟨rfl, t1, t4, t6, t7, xT, t13, hx⟩
  by_cases hxi : xT < i
  · have ix : xT < (List.replicate i (en8 99)).length := by rw [List.length_replicate]; exact hxi
    have ex : (List.replicate i (en8 99))[xT] = en8 99 := List.getElem_replicate ..
    simp (maxSteps := 1000000) (disch := omega) only [WS, List.getElem_cons_zero, List.getElem_cons_succ, Option.isNone_some, Option.isNone_none, List.getD_cons_zero, List.getD_cons_succ, I.at, atL, atO, atP, evp, evs, retV, ↓reduceIte, Nat.reduceEqDiff, reduceCtorEq, AS, t1, t4, t6, t7, t13, oo11.sl.Xlen, lo99, oo11.sl.Xix ix, oo11.sl.Xld ix, cell_e8, ex, e99, ne_eq, not_true_eq_false, decide_false]
    exact ⟨⟨xT + 1, rfl, by omega⟩, by omega⟩
  obtain rfl : xT = i := by omega
  obtain ⟨n, hn⟩ : ∃ n, n = K + q := ⟨_, rfl⟩
  rw [← hn] at eKM
  simp (maxSteps := 1000000) (disch := omega) only [WS, List.getElem_cons_zero, List.getElem_cons_succ, Option.isNone_some, Option.isNone_none, List.getD_cons_zero, List.getD_cons_succ, I.at, atL, atO, atP, evp, evs, retV, ↓reduceIte, Nat.reduceEqDiff, reduceCtorEq, AS, t1, t4, t6, t7, t13, oo11.sl.Xlen, lo99, hrb11.Xld (show 1 < _ by simp), hrb11.Xld (show 2 < _ by simp), eKM]
  refine X_mks (x := (0 : Int)) (n := n) (by simp only [maxBytes]; omega) (by omega) fun sp w15 op hB15 => ?_
  have zB := B.size
  have gp := Seg.of op
  have hrb15 := hrb11.up hB15
  simp (maxSteps := 1000000) (disch := omega) only [WS, List.getElem_cons_zero, List.getElem_cons_succ, Option.isNone_some, Option.isNone_none, List.getD_cons_zero, List.getD_cons_succ, I.at, atL, atO, atP, evp, evs, retV, ↓reduceIte, Nat.reduceEqDiff, reduceCtorEq, AS, t1, t4, t6, t7, hrb15.Xld (show 1 < _ by simp), hrb15.Xld (show 2 < _ by simp), eKM]
  refine X_mks (x := (0 : El 8)) (n := n) (by simp only [maxBytes]; omega) (by omega) fun sv w16 ov hB16 => ?_
  have gv := Seg.of ov
  have gp := gp.up hB16
  have z15 := hB15.size
  have z16 := hB16.size
  have D16 := hB15.trans (hB16.mono z15)
  clear op ov hB15 hB16 hrb15
  simp (maxSteps := 1000000) (disch := omega) only [WS, List.getElem_cons_zero, List.getElem_cons_succ, Option.isNone_some, Option.isNone_none, List.getD_cons_zero, List.getD_cons_succ, I.at, atL, atO, atP, evp, evs, retV, ↓reduceIte, Nat.reduceEqDiff, reduceCtorEq, AS]
  refine loop_of (fun t w' => t 1 = .pointer (some ⟨b, 0, none⟩) ∧ t 4 = so ∧ t 6 = sa ∧ t 7 = sb ∧ t 14 = sp ∧ t 15 = sv ∧ RowKit.Below w14.heap.size w14 w' ∧ w16.heap.size ≤ w'.heap.size ∧ ∃ (y : Nat) (PL : List Int) (VL : List (El 8)), t 16 = .int .i64 (y : Int) ∧ y ≤ n ∧ PL.length = n ∧ VL.length = n ∧ (∀ j (hj : j < PL.length), j < y → PL[j] = ((3 * j + 0 : Nat) : Int)) ∧ (∀ j, j < y → nth VL j = en8 7) ∧ Seg w14.heap.size w15.heap.size w' sp PL ∧ Seg w15.heap.size w16.heap.size w' sv VL) (fun t _ => n - (toI (t 16)).toNat)
    ⟨by simp only [WS, List.getElem_cons_zero, List.getElem_cons_succ, Option.isNone_some, Option.isNone_none, List.getD_cons_zero, List.getD_cons_succ, I.at, atL, atO, atP, evp, evs, retV, ↓reduceIte, Nat.reduceEqDiff, reduceCtorEq]; exact t1, by simp only [WS, List.getElem_cons_zero, List.getElem_cons_succ, Option.isNone_some, Option.isNone_none, List.getD_cons_zero, List.getD_cons_succ, I.at, atL, atO, atP, evp, evs, retV, ↓reduceIte, Nat.reduceEqDiff, reduceCtorEq]; exact t4, by simp only [WS, List.getElem_cons_zero, List.getElem_cons_succ, Option.isNone_some, Option.isNone_none, List.getD_cons_zero, List.getD_cons_succ, I.at, atL, atO, atP, evp, evs, retV, ↓reduceIte, Nat.reduceEqDiff, reduceCtorEq]; exact t6, by simp only [WS, List.getElem_cons_zero, List.getElem_cons_succ, Option.isNone_some, Option.isNone_none, List.getD_cons_zero, List.getD_cons_succ, I.at, atL, atO, atP, evp, evs, retV, ↓reduceIte, Nat.reduceEqDiff, reduceCtorEq]; exact t7, by simp only [WS, List.getElem_cons_zero, List.getElem_cons_succ, Option.isNone_some, Option.isNone_none, List.getD_cons_zero, List.getD_cons_succ, I.at, atL, atO, atP, evp, evs, retV, ↓reduceIte, Nat.reduceEqDiff, reduceCtorEq], by simp only [WS, List.getElem_cons_zero, List.getElem_cons_succ, Option.isNone_some, Option.isNone_none, List.getD_cons_zero, List.getD_cons_succ, I.at, atL, atO, atP, evp, evs, retV, ↓reduceIte, Nat.reduceEqDiff, reduceCtorEq], D16, Nat.le_refl _, 0, _, _, by simp only [WS, List.getElem_cons_zero, List.getElem_cons_succ, Option.isNone_some, Option.isNone_none, List.getD_cons_zero, List.getD_cons_succ, I.at, atL, atO, atP, evp, evs, retV, ↓reduceIte, Nat.reduceEqDiff, reduceCtorEq]; rfl, by omega, List.length_replicate .., List.length_replicate .., fun j hj h => absurd h (Nat.not_lt_zero _), fun j h => absurd h (Nat.not_lt_zero _), gp, gv⟩ ?_
  clear t1 t4 t6 t7 t13 D16 gp gv
  rintro t w17 ⟨t1, t4, t6, t7, t14, t15, D, z17, y, PL, VL, t16, hy, lP, lV, hPL, hVL, gp, gv⟩
  have lPi : ((PL.length : Nat) : Int) = (n : Int) := by rw [lP]
  by_cases hyn : y < n
  · have iP : y < PL.length := by omega
    have iV : y < VL.length := by omega
    have e3 : IntKind.i64.wrap (3 * (y : Int)) = ((3 * y + 0 : Nat) : Int) := by rw [wrap_id (by omega) (by omega)]; omega
    simp (maxSteps := 1000000) (disch := omega) only [WS, List.getElem_cons_zero, List.getElem_cons_succ, Option.isNone_some, Option.isNone_none, List.getD_cons_zero, List.getD_cons_succ, I.at, atL, atO, atP, evp, evs, retV, ↓reduceIte, Nat.reduceEqDiff, reduceCtorEq, AS, t1, t4, t6, t7, t14, t15, t16, gp.sl.Xlen, lPi, e3, gp.sl.Xix iP]
    refine gp.Xst iP ((3 * y + 0 : Nat) : Int) fun w18 c gp2 hg q4 q5 => ?_
    have gv := gv.grown hg (Or.inl q5)
    have D := D.grown hg D.size fun x hx => by cases hx; exact q4
    have z17 := Nat.le_trans z17 hg.size
    simp (maxSteps := 1000000) (disch := omega) only [WS, List.getElem_cons_zero, List.getElem_cons_succ, Option.isNone_some, Option.isNone_none, List.getD_cons_zero, List.getD_cons_succ, I.at, atL, atO, atP, evp, evs, retV, ↓reduceIte, Nat.reduceEqDiff, reduceCtorEq, AS, t1, t4, t6, t7, t14, t15, t16, gv.sl.Xix iV]
    refine gv.Xst iV (en8 7) fun w19 c2 gv2 hg2 q6 q7 => ?_
    have gp2 := gp2.grown hg2 (Or.inr q6)
    have D := D.grown hg2 D.size fun x hx => by cases hx; omega
    have z17 := Nat.le_trans z17 hg2.size
    simp (maxSteps := 1000000) (disch := omega) only [WS, List.getElem_cons_zero, List.getElem_cons_succ, Option.isNone_some, Option.isNone_none, List.getD_cons_zero, List.getD_cons_succ, I.at, atL, atO, atP, evp, evs, retV, ↓reduceIte, Nat.reduceEqDiff, reduceCtorEq, AS, t1, t4, t6, t7, t14, t15, t16]
    refine ⟨⟨D, z17, y + 1, _, _, rfl, by omega, by rw [List.length_set]; exact lP, by rw [List.length_set]; exact lV, fun j hj hjy => ?_, fun j hjy => ?_, gp2, gv2⟩, by omega⟩
    · rw [List.getElem_set]
      split
      · rename_i e; subst e; simp
      · exact hPL j (by rw [List.length_set] at hj; exact hj) (by omega)
    · rw [nth_set iV]
      split
      · rfl
      · exact hVL j (by omega)
  obtain rfl : y = n := by omega
  obtain rfl : PL = p3 0 y := list_eq lP fun j hj => hPL j hj (by omega)
  obtain rfl : VL = List.replicate y (en8 7) := rep_eq lV hVL
  obtain ⟨P, hP⟩ : ∃ P, P = p3 0 y := ⟨_, rfl⟩
  have hPa : asc P P.length := by rw [hP]; exact p3_asc (by omega) (by omega)
  rw [← hP] at gp lP lPi hPL
  have eV : List.replicate y (en8 7) = List.replicate P.length (en8 7) := by rw [lP]
  rw [eV] at gv
  have hrb17 := hrb11.up D
  have oo17 := oo11.up D
  have hA17 := hA11.up (frmT fun _ => True) D
  have hB17 := hB11.up (frmT fun _ => True) D
  have B := B.trans (D.mono B.size)
  have zD := D.size
  clear hPL hVL lV D hA11 hB11 oo11 hrb11
  simp (maxSteps := 1000000) (disch := omega) only [WS, List.getElem_cons_zero, List.getElem_cons_succ, Option.isNone_some, Option.isNone_none, List.getD_cons_zero, List.getD_cons_succ, I.at, atL, atO, atP, evp, evs, retV, ↓reduceIte, Nat.reduceEqDiff, reduceCtorEq, AS, t1, t4, t6, t7, t14, t15, t16, gp.sl.Xlen, lPi, hrb17.Xld (show 1 < _ by simp)]
  refine X_call0 ((mend_Column_c w17 K sp sv P (en8 7) (by decide) gp.sl gv.sl (by omega) (by omega) (by omega) hPa).mono ?_)
  rintro _ w18 ⟨hB, sx, sxo, rfl, ox, oxo⟩
  have gx := Seg.of ox
  have oxo := oxo.sl
  have hA17 := hA17.up (frmT fun _ => True) hB
  have hB17 := hB17.up (frmT fun _ => True) hB
  have z18 := hB.size
  have gp := gp.up hB
  have gv := gv.up hB
  have hrb17 := hrb17.up hB
  have oo17 := oo17.up hB
  have B := B.trans (hB.mono B.size)
  clear hB
  clear ox
  simp (maxSteps := 1000000) (disch := omega) only [WS, List.getElem_cons_zero, List.getElem_cons_succ, Option.isNone_some, Option.isNone_none, List.getD_cons_zero, List.getD_cons_succ, I.at, atL, atO, atP, evp, evs, retV, ↓reduceIte, Nat.reduceEqDiff, reduceCtorEq, AS, t1, t4, t6, t7, t14, t15, hrb17.Xld (show 1 < _ by simp)]
  refine X_call0 ((mend_Column_c w18 K sp sv P (en8 7) (by decide) gp.sl gv.sl (by omega) (by omega) (by omega) hPa).mono ?_)
  rintro _ w19 ⟨hB, sy, syo, rfl, oy, oyo⟩
  have gy := Seg.of oy
  have oyo := oyo.sl
  have hA17 := hA17.up (frmT fun _ => True) hB
  have hB17 := hB17.up (frmT fun _ => True) hB
  have z19 := hB.size
  have gp := gp.up hB
  have gv := gv.up hB
  have hrb17 := hrb17.up hB
  have oo17 := oo17.up hB
  have gx := gx.up hB
  have oxo := oxo.up hB
  have B := B.trans (hB.mono B.size)
  clear hB
  clear oy
  simp (maxSteps := 1000000) (disch := omega) only [WS, List.getElem_cons_zero, List.getElem_cons_succ, Option.isNone_some, Option.isNone_none, List.getD_cons_zero, List.getD_cons_succ, I.at, atL, atO, atP, evp, evs, retV, ↓reduceIte, Nat.reduceEqDiff, reduceCtorEq, AS, t1, t4, t6, t7, t14, t15, hrb17.Xld (show 1 < _ by simp)]
  have lrV : (List.replicate P.length (en8 7)).length = P.length := List.length_replicate ..
  refine X_call0 ((mend_Syndromes_spec w19 (K : Int) sp sv P (List.replicate P.length (en8 7)) gp.sl gv.sl (by omega) (by omega)).mono ?_)
  rintro vv w20 ⟨hB, hres⟩
  obtain ⟨ss, S1, rfl, os, lS1, hS1⟩ : ∃ (s : Value) (S : List (El 8)), vv = .tuple #[s, .int .i64 0] ∧ Ow w19.heap.size w20 s S ∧ S.length = P.length - K ∧ ∀ i, i < S.length → (co S).c i = (nw (nth (xsP P)) (nth (List.replicate P.length (en8 7))) 0 P.length).c (K + i) := by
    rcases hres with ⟨h9, -⟩ | ⟨-, h9, -⟩ | ⟨-, -, h9, -⟩ | ⟨-, -, -, h9, -⟩ | ⟨-, -, -, -, s, A, h5, h6, h7, h8⟩
    · omega
    · exact absurd hPa h9
    · exact absurd lrV h9
    · omega
    · exact ⟨s, A, h5, h6, h7, h8 (xsP P) (xsP_len P) (xsP_val hPa)⟩
  clear hres
  have gs := Seg.of os
  have hA17 := hA17.up (frmT fun _ => True) hB
  have hB17 := hB17.up (frmT fun _ => True) hB
  have z20 := hB.size
  have gp := gp.up hB
  have gv := gv.up hB
  have hrb17 := hrb17.up hB
  have oo17 := oo17.up hB
  have gx := gx.up hB
  have oxo := oxo.up hB
  have gy := gy.up hB
  have oyo := oyo.up hB
  have B := B.trans (hB.mono B.size)
  clear hB
  clear os
  simp (maxSteps := 1000000) (disch := omega) only [WS, List.getElem_cons_zero, List.getElem_cons_succ, Option.isNone_some, Option.isNone_none, List.getD_cons_zero, List.getD_cons_succ, I.at, atL, atO, atP, evp, evs, retV, ↓reduceIte, Nat.reduceEqDiff, reduceCtorEq, AS, t1, t4, t6, t7, t14, t15, hrb17.Xld (show 1 < _ by simp)]
  refine X_call0 ((mend_Syndromes_spec w20 (K : Int) sp sv P (List.replicate P.length (en8 7)) gp.sl gv.sl (by omega) (by omega)).mono ?_)
  rintro vv w21 ⟨hB, hres⟩
  obtain ⟨st, S2, rfl, ot, lS2, hS2⟩ : ∃ (s : Value) (S : List (El 8)), vv = .tuple #[s, .int .i64 0] ∧ Ow w20.heap.size w21 s S ∧ S.length = P.length - K ∧ ∀ i, i < S.length → (co S).c i = (nw (nth (xsP P)) (nth (List.replicate P.length (en8 7))) 0 P.length).c (K + i) := by
    rcases hres with ⟨h9, -⟩ | ⟨-, h9, -⟩ | ⟨-, -, h9, -⟩ | ⟨-, -, -, h9, -⟩ | ⟨-, -, -, -, s, A, h5, h6, h7, h8⟩
    · omega
    · exact absurd hPa h9
    · exact absurd lrV h9
    · omega
    · exact ⟨s, A, h5, h6, h7, h8 (xsP P) (xsP_len P) (xsP_val hPa)⟩
  clear hres
  obtain rfl : S2 = S1 := List.ext_getElem (by omega) fun j a1 a2 => by rw [← co_get S2 a1, ← co_get S1 a2, hS2 j a1, hS1 j a2]
  have gt := Seg.of ot
  have hA17 := hA17.up (frmT fun _ => True) hB
  have hB17 := hB17.up (frmT fun _ => True) hB
  have z21 := hB.size
  have gp := gp.up hB
  have gv := gv.up hB
  have hrb17 := hrb17.up hB
  have oo17 := oo17.up hB
  have gx := gx.up hB
  have oxo := oxo.up hB
  have gy := gy.up hB
  have oyo := oyo.up hB
  have gs := gs.up hB
  have B := B.trans (hB.mono B.size)
  clear hB
  clear ot hS1 hS2
  simp (maxSteps := 1000000) (disch := omega) only [WS, List.getElem_cons_zero, List.getElem_cons_succ, Option.isNone_some, Option.isNone_none, List.getD_cons_zero, List.getD_cons_succ, I.at, atL, atO, atP, evp, evs, retV, ↓reduceIte, Nat.reduceEqDiff, reduceCtorEq, AS, t1, t4, t6, t7, t14, t15]
  refine X_call0 ((culletlaw19_sameBytes_spec w21 sx sv _ _ gx.sl gv.sl (by omega) (by omega)).mono ?_)
  rintro _ w22 ⟨rfl, hk⟩
  have hB := hk.1
  clear hk
  have hA17 := hA17.up (frmT fun _ => True) hB
  have hB17 := hB17.up (frmT fun _ => True) hB
  have z22 := hB.size
  have gp := gp.up hB
  have gv := gv.up hB
  have hrb17 := hrb17.up hB
  have oo17 := oo17.up hB
  have gx := gx.up hB
  have oxo := oxo.up hB
  have gy := gy.up hB
  have oyo := oyo.up hB
  have gs := gs.up hB
  have gt := gt.up hB
  have B := B.trans (hB.mono B.size)
  clear hB
  simp (maxSteps := 1000000) (disch := omega) only [WS, List.getElem_cons_zero, List.getElem_cons_succ, Option.isNone_some, Option.isNone_none, List.getD_cons_zero, List.getD_cons_succ, I.at, atL, atO, atP, evp, evs, retV, ↓reduceIte, Nat.reduceEqDiff, reduceCtorEq, AS, decide_eq_true rfl]
  refine X_call0 ((culletlaw19_sameBytes_spec w22 sx sy _ _ gx.sl gy.sl (by omega) (by omega)).mono ?_)
  rintro _ w23 ⟨rfl, hk⟩
  have hB := hk.1
  clear hk
  have hA17 := hA17.up (frmT fun _ => True) hB
  have hB17 := hB17.up (frmT fun _ => True) hB
  have z23 := hB.size
  have gp := gp.up hB
  have gv := gv.up hB
  have hrb17 := hrb17.up hB
  have oo17 := oo17.up hB
  have gx := gx.up hB
  have oxo := oxo.up hB
  have gy := gy.up hB
  have oyo := oyo.up hB
  have gs := gs.up hB
  have gt := gt.up hB
  have B := B.trans (hB.mono B.size)
  clear hB
  have lS2i : ((S2.length : Nat) : Int) = (q : Int) := by omega
  simp (maxSteps := 1000000) (disch := omega) only [WS, List.getElem_cons_zero, List.getElem_cons_succ, Option.isNone_some, Option.isNone_none, List.getD_cons_zero, List.getD_cons_succ, I.at, atL, atO, atP, evp, evs, retV, ↓reduceIte, Nat.reduceEqDiff, reduceCtorEq, AS, decide_eq_true rfl, oxo.Xlen, oyo.Xlen, List.length_nil, show decide (((0 : Nat) : Int) ≠ 0) = false from rfl, gs.sl.Xlen, lS2i, t1, hrb17.Xld (show 2 < _ by simp), ne_eq, not_true_eq_false, decide_false]
  refine X_call0 ((culletlaw19_sameBytes_spec w23 ss st S2 S2 gs.sl gt.sl (by omega) (by omega)).mono ?_)
  rintro _ w24 ⟨rfl, hk⟩
  have hB := hk.1
  clear hk
  have hA17 := hA17.up (frmT fun _ => True) hB
  have hB17 := hB17.up (frmT fun _ => True) hB
  have z24 := hB.size
  have gp := gp.up hB
  have gv := gv.up hB
  have hrb17 := hrb17.up hB
  have oo17 := oo17.up hB
  have gx := gx.up hB
  have gy := gy.up hB
  have gs := gs.up hB
  have gt := gt.up hB
  have B := B.trans (hB.mono B.size)
  clear hB
  clear oxo oyo
  have lrVi : (((List.replicate P.length (en8 7)).length : Nat) : Int) = (y : Int) := by omega
  simp (maxSteps := 1000000) (disch := omega) only [WS, List.getElem_cons_zero, List.getElem_cons_succ, Option.isNone_some, Option.isNone_none, List.getD_cons_zero, List.getD_cons_succ, I.at, atL, atO, atP, evp, evs, retV, ↓reduceIte, Nat.reduceEqDiff, reduceCtorEq, AS, decide_eq_true rfl, t1, t4, t6, t7, t14, t15, gv.sl.Xlen, lrVi]
  refine loop_of (fun t w' => t 1 = .pointer (some ⟨b, 0, none⟩) ∧ t 4 = so ∧ t 6 = sa ∧ t 7 = sb ∧ t 14 = sp ∧ t 15 = sv ∧ t 17 = sx ∧ t 20 = sy ∧ t 23 = ss ∧ t 25 = st ∧ RowKit.Below w14.heap.size w24 w' ∧ Out w14.heap.size w16.heap.size w24 w' ∧ ∃ (x : Nat) (PL : List Int) (VL : List (El 8)), t 27 = .int .i64 (x : Int) ∧ x ≤ y ∧ PL.length = y ∧ VL.length = y ∧ (∀ j (hj : j < PL.length), j < x → PL[j] = ((3 * j + 1 : Nat) : Int)) ∧ (∀ j, j < x → nth VL j = en8 8) ∧ Seg w14.heap.size w15.heap.size w' sp PL ∧ Seg w15.heap.size w16.heap.size w' sv VL) (fun t _ => y - (toI (t 27)).toNat)
    ⟨by simp only [WS, List.getElem_cons_zero, List.getElem_cons_succ, Option.isNone_some, Option.isNone_none, List.getD_cons_zero, List.getD_cons_succ, I.at, atL, atO, atP, evp, evs, retV, ↓reduceIte, Nat.reduceEqDiff, reduceCtorEq]; exact t1, by simp only [WS, List.getElem_cons_zero, List.getElem_cons_succ, Option.isNone_some, Option.isNone_none, List.getD_cons_zero, List.getD_cons_succ, I.at, atL, atO, atP, evp, evs, retV, ↓reduceIte, Nat.reduceEqDiff, reduceCtorEq]; exact t4, by simp only [WS, List.getElem_cons_zero, List.getElem_cons_succ, Option.isNone_some, Option.isNone_none, List.getD_cons_zero, List.getD_cons_succ, I.at, atL, atO, atP, evp, evs, retV, ↓reduceIte, Nat.reduceEqDiff, reduceCtorEq]; exact t6, by simp only [WS, List.getElem_cons_zero, List.getElem_cons_succ, Option.isNone_some, Option.isNone_none, List.getD_cons_zero, List.getD_cons_succ, I.at, atL, atO, atP, evp, evs, retV, ↓reduceIte, Nat.reduceEqDiff, reduceCtorEq]; exact t7, by simp only [WS, List.getElem_cons_zero, List.getElem_cons_succ, Option.isNone_some, Option.isNone_none, List.getD_cons_zero, List.getD_cons_succ, I.at, atL, atO, atP, evp, evs, retV, ↓reduceIte, Nat.reduceEqDiff, reduceCtorEq]; exact t14, by simp only [WS, List.getElem_cons_zero, List.getElem_cons_succ, Option.isNone_some, Option.isNone_none, List.getD_cons_zero, List.getD_cons_succ, I.at, atL, atO, atP, evp, evs, retV, ↓reduceIte, Nat.reduceEqDiff, reduceCtorEq]; exact t15, by simp only [WS, List.getElem_cons_zero, List.getElem_cons_succ, Option.isNone_some, Option.isNone_none, List.getD_cons_zero, List.getD_cons_succ, I.at, atL, atO, atP, evp, evs, retV, ↓reduceIte, Nat.reduceEqDiff, reduceCtorEq], by simp only [WS, List.getElem_cons_zero, List.getElem_cons_succ, Option.isNone_some, Option.isNone_none, List.getD_cons_zero, List.getD_cons_succ, I.at, atL, atO, atP, evp, evs, retV, ↓reduceIte, Nat.reduceEqDiff, reduceCtorEq], by simp only [WS, List.getElem_cons_zero, List.getElem_cons_succ, Option.isNone_some, Option.isNone_none, List.getD_cons_zero, List.getD_cons_succ, I.at, atL, atO, atP, evp, evs, retV, ↓reduceIte, Nat.reduceEqDiff, reduceCtorEq], by simp only [WS, List.getElem_cons_zero, List.getElem_cons_succ, Option.isNone_some, Option.isNone_none, List.getD_cons_zero, List.getD_cons_succ, I.at, atL, atO, atP, evp, evs, retV, ↓reduceIte, Nat.reduceEqDiff, reduceCtorEq], RowKit.Below.refl _ _, Out.refl _ _ _, 0, _, _, by simp only [WS, List.getElem_cons_zero, List.getElem_cons_succ, Option.isNone_some, Option.isNone_none, List.getD_cons_zero, List.getD_cons_succ, I.at, atL, atO, atP, evp, evs, retV, ↓reduceIte, Nat.reduceEqDiff, reduceCtorEq]; rfl, by omega, lP, by omega, fun j hj h => absurd h (Nat.not_lt_zero _), fun j h => absurd h (Nat.not_lt_zero _), gp, gv⟩ ?_
  clear t1 t4 t6 t7 t14 t15 t16 gp gv
  rintro t w25 ⟨t1, t4, t6, t7, t14, t15, t17, t20, t23, t25, D, OU, x, PL, VL, t27, hx2, lPL, lVL, hPL, hVL, gpp, gv⟩
  have lVi : ((VL.length : Nat) : Int) = (y : Int) := by rw [lVL]
  by_cases hyn : x < y
  · have iP : x < PL.length := by omega
    have iV : x < VL.length := by omega
    have e3 : IntKind.i64.wrap (3 * (x : Int)) = 3 * (x : Int) := wrap_id (by omega) (by omega)
    have e4 : IntKind.i64.wrap (3 * (x : Int) + 1) = ((3 * x + 1 : Nat) : Int) := by rw [wrap_id (by omega) (by omega)]; omega
    simp (maxSteps := 1000000) (disch := omega) only [WS, List.getElem_cons_zero, List.getElem_cons_succ, Option.isNone_some, Option.isNone_none, List.getD_cons_zero, List.getD_cons_succ, I.at, atL, atO, atP, evp, evs, retV, ↓reduceIte, Nat.reduceEqDiff, reduceCtorEq, AS, t1, t4, t6, t7, t14, t15, t17, t20, t23, t25, t27, gv.sl.Xlen, lVi, gv.sl.Xix iV]
    refine gv.Xst iV (en8 8) fun w26 c2 gv2 hg2 q6 q7 => ?_
    have gpp := gpp.grown hg2 (Or.inr q6)
    have D := D.grown hg2 (by have := D.size; omega) fun x hx => by cases hx; omega
    have OU := OU.grown hg2 (by omega) q7
    simp (maxSteps := 1000000) (disch := omega) only [WS, List.getElem_cons_zero, List.getElem_cons_succ, Option.isNone_some, Option.isNone_none, List.getD_cons_zero, List.getD_cons_succ, I.at, atL, atO, atP, evp, evs, retV, ↓reduceIte, Nat.reduceEqDiff, reduceCtorEq, AS, t1, t4, t6, t7, t14, t15, t17, t20, t23, t25, t27, e3, e4, gpp.sl.Xix iP]
    refine gpp.Xst iP ((3 * x + 1 : Nat) : Int) fun w27 c gp2 hg q4 q5 => ?_
    have gv2 := gv2.grown hg (Or.inl q5)
    have D := D.grown hg (by have := D.size; omega) fun x hx => by cases hx; exact q4
    have OU := OU.grown hg q4 (by omega)
    simp (maxSteps := 1000000) (disch := omega) only [WS, List.getElem_cons_zero, List.getElem_cons_succ, Option.isNone_some, Option.isNone_none, List.getD_cons_zero, List.getD_cons_succ, I.at, atL, atO, atP, evp, evs, retV, ↓reduceIte, Nat.reduceEqDiff, reduceCtorEq, AS, t1, t4, t6, t7, t14, t15, t17, t20, t23, t25, t27]
    refine ⟨⟨D, OU, x + 1, _, _, rfl, by omega, by rw [List.length_set]; exact lPL, by rw [List.length_set]; exact lVL, fun j hj hjy => ?_, fun j hjy => ?_, gp2, gv2⟩, by omega⟩
    · rw [List.getElem_set]
      split
      · rename_i e; subst e; rfl
      · exact hPL j (by rw [List.length_set] at hj; exact hj) (by omega)
    · rw [nth_set iV]
      split
      · rfl
      · exact hVL j (by omega)
  obtain rfl : x = y := by omega
  have hP2 : PL = p3 1 x := list_eq lPL fun j hj => hPL j hj (by omega)
  have hPa2 : asc PL PL.length := by rw [hP2]; exact p3_asc (by omega) (by omega)
  have eVL : VL = List.replicate PL.length (en8 8) := rep_eq (by omega) fun j hj => hVL j (by omega)
  rw [eVL] at gv lVi
  have hsz25 : w24.heap.size ≤ w25.heap.size := OU.sz
  have gx := gx.out OU (Or.inr (by omega))
  have gy := gy.out OU (Or.inr (by omega))
  have gs := gs.out OU (Or.inr (by omega))
  have gt := gt.out OU (Or.inr (by omega))
  have hA17 := shOut (F' := fun _ => True) hA17 OU (fun c hc => by have := hAt c hc; omega) (fun j hj _ c hc => by have := hA2b j hj c hc; omega) trivial
  have hB17 := shOut (F' := fun _ => True) hB17 OU (fun c hc => by have := hBt c hc; omega) (fun j hj _ c hc => by have := hB2b j hj c hc; omega) trivial
  have oo17 := owOut oo17 OU (fun c hc => by have := hob c hc; omega)
  have hrb17 : Row w25 b [.int .i64 f, .int .i64 (K : Int), .int .i64 (q : Int), sd, lo, wr] := row_up hrb17 (OU.eq b (row_lt hrb17) (Or.inl (by have := row_lt hrb6; omega)))
  have B : RowKit.Below w.heap.size w w25 := B.trans (D.mono (by omega))
  clear hPL hVL D OU
  simp (maxSteps := 1000000) (disch := omega) only [WS, List.getElem_cons_zero, List.getElem_cons_succ, Option.isNone_some, Option.isNone_none, List.getD_cons_zero, List.getD_cons_succ, I.at, atL, atO, atP, evp, evs, retV, ↓reduceIte, Nat.reduceEqDiff, reduceCtorEq, AS, t1, t4, t6, t7, t14, t15, t17, t20, t23, t25, t27, gv.sl.Xlen, lVi, hrb17.Xld (show 1 < _ by simp)]
  refine X_call0 ((mend_Column_c w25 K sp sv PL (en8 8) (by decide) gpp.sl gv.sl (by omega) (by omega) (by omega) hPa2).mono ?_)
  rintro _ w26 ⟨hB, sz, szo, rfl, oz, -⟩
  have gz := Seg.of oz
  have hA17 := hA17.up (frmT fun _ => True) hB
  have hB17 := hB17.up (frmT fun _ => True) hB
  have z26 := hB.size
  have gv := gv.up hB
  have oo17 := oo17.up hB
  have gx := gx.up hB
  have gy := gy.up hB
  have gs := gs.up hB
  have gt := gt.up hB
  have B := B.trans (hB.mono B.size)
  clear hB
  clear oz gpp
  have lr8 : (List.replicate PL.length (en8 8)).length = PL.length := List.length_replicate ..
  simp (maxSteps := 1000000) (disch := omega) only [WS, List.getElem_cons_zero, List.getElem_cons_succ, Option.isNone_some, Option.isNone_none, List.getD_cons_zero, List.getD_cons_succ, I.at, atL, atO, atP, evp, evs, retV, ↓reduceIte, Nat.reduceEqDiff, reduceCtorEq, AS, t1, t4, t6, t7, t14, t15, t17, t20, t23, t25]
  refine X_call0 ((culletlaw19_sameBytes_spec w26 sz sv _ _ gz.sl gv.sl (by omega) (by omega)).mono ?_)
  rintro _ w27 ⟨rfl, hk⟩
  have hB := hk.1
  clear hk
  have hA17 := hA17.up (frmT fun _ => True) hB
  have hB17 := hB17.up (frmT fun _ => True) hB
  have z27 := hB.size
  have gv := gv.up hB
  have oo17 := oo17.up hB
  have gx := gx.up hB
  have gy := gy.up hB
  have gs := gs.up hB
  have gt := gt.up hB
  have gz := gz.up hB
  have B := B.trans (hB.mono B.size)
  clear hB
  have i0 : 0 < (List.replicate P.length (en8 7)).length := by omega
  have e0 : (List.replicate P.length (en8 7))[0] = en8 7 := List.getElem_replicate ..
  have e07 : (((en8 7).v.toNat : Nat) : Int) = 7 := by rw [en8_v (by decide)]; rfl
  simp (maxSteps := 1000000) (disch := omega) only [WS, List.getElem_cons_zero, List.getElem_cons_succ, Option.isNone_some, Option.isNone_none, List.getD_cons_zero, List.getD_cons_succ, I.at, atL, atO, atP, evp, evs, retV, ↓reduceIte, Nat.reduceEqDiff, reduceCtorEq, AS, decide_eq_true rfl, t17, t20, t4, t6, t7, t15, t23, t25, gx.sl.Xix0 i0, gx.sl.Xld i0, gy.sl.Xix0 i0, gy.sl.Xld i0, cell_e8, e0, e07, ne_eq, not_true_eq_false, decide_false]
  -- all the lists
  have hseg : ∀ {lo hi : Nat} {s : Value} {l : List (El 8)}, Seg lo hi w27 s l → ∃ x : Hd, s = Cell.v x := fun g => ⟨hd _, g.sl.hd.1.symm⟩
  obtain ⟨Lo, go⟩ : ∃ Lo : List (El 8), Lo.length ≤ 16 ∧ Seg w4.heap.size w5.heap.size w27 so Lo := ⟨_, by omega, ⟨oo17, fun c hc => (hob c hc).2⟩⟩
  obtain ⟨lLo, go⟩ := go
  clear oo17
  obtain ⟨x0, rfl⟩ := hseg go
  obtain ⟨x1, rfl⟩ := hseg gv
  obtain ⟨x2, rfl⟩ := hseg gx
  obtain ⟨x3, rfl⟩ := hseg gy
  obtain ⟨x4, rfl⟩ := hseg gz
  obtain ⟨x5, rfl⟩ := hseg gs
  obtain ⟨x6, rfl⟩ := hseg gt
  obtain ⟨Lv, lLv, gv⟩ : ∃ Lv : List (El 8), Lv.length ≤ 16 ∧ Seg w15.heap.size w16.heap.size w27 (Cell.v x1) Lv := ⟨_, by omega, gv⟩
  obtain ⟨Lx, lLx, gx⟩ : ∃ Lv : List (El 8), Lv.length ≤ 16 ∧ Seg w17.heap.size w18.heap.size w27 (Cell.v x2) Lv := ⟨_, by omega, gx⟩
  obtain ⟨Ly, lLy, gy⟩ : ∃ Lv : List (El 8), Lv.length ≤ 16 ∧ Seg w18.heap.size w19.heap.size w27 (Cell.v x3) Lv := ⟨_, by omega, gy⟩
  obtain ⟨Lz, lLz, gz⟩ : ∃ Lv : List (El 8), Lv.length ≤ 16 ∧ Seg w25.heap.size w26.heap.size w27 (Cell.v x4) Lv := ⟨_, by omega, gz⟩
  obtain ⟨Ls, lLs, gs⟩ : ∃ Lv : List (El 8), Lv.length ≤ 16 ∧ Seg w19.heap.size w20.heap.size w27 (Cell.v x5) Lv := ⟨_, by omega, gs⟩
  obtain ⟨Lt, lLt, gt⟩ : ∃ Lv : List (El 8), Lv.length ≤ 16 ∧ Seg w20.heap.size w21.heap.size w27 (Cell.v x6) Lv := ⟨_, by omega, gt⟩
  have one : ∀ {lo hi : Nat} {y : Hd} {l : List (El 8)} (g : Seg lo hi w27 (Cell.v y) l), ∀ e ∈ [(Cell.v y, l)], ∀ c, Fw.blk e.1 = some c → lo ≤ c ∧ c < hi := fun g e he c hc => by
    obtain rfl := List.mem_singleton.1 he
    exact ⟨g.low c hc, g.top c hc⟩
  have rA : ∀ e ∈ rowsE hA2 (rowS f K G xT), ∀ c, Fw.blk e.1 = some c → ((w6.heap.size ≤ c ∧ c < w7.heap.size) ∨ (w9.heap.size ≤ c ∧ c < w10.heap.size)) ∧ Fw.blk sa ≠ some c := fun e he c hc => by
    obtain ⟨j, hj, rfl⟩ := rowsE_mem he
    exact ⟨hA2b j hj c hc, fun e => hA17.apv j hj (hrn j) (by rw [hc, e])⟩
  have rB : ∀ e ∈ rowsE hB2 (rowS f K G xT), ∀ c, Fw.blk e.1 = some c → (w7.heap.size ≤ c ∧ c < w8.heap.size) ∨ (w10.heap.size ≤ c ∧ c < w11.heap.size) := fun e he c hc => by
    obtain ⟨j, hj, rfl⟩ := rowsE_mem he
    exact hB2b j hj c hc
  have J1 := one go
  have L1 : Lst (α := El 8) w4.heap.size [(Cell.v x0, Lo)] w27 := Lst.one (go.own.mono (by omega))
  have L2 := L1.app (Lst.one (gv.own.mono (by omega))) fun e he f hf c hc hc2 => by
    have h1 := J1 e he c hc
    have h2 := one gv f hf c hc2
    omega
  have J2 := fun e (he : e ∈ [(Cell.v x0, Lo)] ++ [(Cell.v x1, Lv)]) c (hc : Fw.blk e.1 = some c) => (List.mem_append.1 he).elim (fun h => Or.inl (J1 e h c hc)) (fun h => Or.inr (one gv e h c hc))
  have L3 := L2.app (Lst.one (gx.own.mono (by omega))) fun e he f hf c hc hc2 => by
    have h1 := J2 e he c hc
    have h2 := one gx f hf c hc2
    omega
  have J3 := fun e (he : e ∈ ([(Cell.v x0, Lo)] ++ [(Cell.v x1, Lv)]) ++ [(Cell.v x2, Lx)]) c (hc : Fw.blk e.1 = some c) => (List.mem_append.1 he).elim (fun h => Or.inl (J2 e h c hc)) (fun h => Or.inr (one gx e h c hc))
  have L4 := L3.app (Lst.one (gy.own.mono (by omega))) fun e he f hf c hc hc2 => by
    have h1 := J3 e he c hc
    have h2 := one gy f hf c hc2
    omega
  have J4 := fun e (he : e ∈ (([(Cell.v x0, Lo)] ++ [(Cell.v x1, Lv)]) ++ [(Cell.v x2, Lx)]) ++ [(Cell.v x3, Ly)]) c (hc : Fw.blk e.1 = some c) => (List.mem_append.1 he).elim (fun h => Or.inl (J3 e h c hc)) (fun h => Or.inr (one gy e h c hc))
  have L5 := L4.app (Lst.one (gz.own.mono (by omega))) fun e he f hf c hc hc2 => by
    have h1 := J4 e he c hc
    have h2 := one gz f hf c hc2
    omega
  have J5 := fun e (he : e ∈ ((([(Cell.v x0, Lo)] ++ [(Cell.v x1, Lv)]) ++ [(Cell.v x2, Lx)]) ++ [(Cell.v x3, Ly)]) ++ [(Cell.v x4, Lz)]) c (hc : Fw.blk e.1 = some c) => (List.mem_append.1 he).elim (fun h => Or.inl (J4 e h c hc)) (fun h => Or.inr (one gz e h c hc))
  have L6 := L5.app (Lst.one (gs.own.mono (by omega))) fun e he f hf c hc hc2 => by
    have h1 := J5 e he c hc
    have h2 := one gs f hf c hc2
    omega
  have J6 := fun e (he : e ∈ (((([(Cell.v x0, Lo)] ++ [(Cell.v x1, Lv)]) ++ [(Cell.v x2, Lx)]) ++ [(Cell.v x3, Ly)]) ++ [(Cell.v x4, Lz)]) ++ [(Cell.v x5, Ls)]) c (hc : Fw.blk e.1 = some c) => (List.mem_append.1 he).elim (fun h => Or.inl (J5 e h c hc)) (fun h => Or.inr (one gs e h c hc))
  have L7 := L6.app (Lst.one (gt.own.mono (by omega))) fun e he f hf c hc hc2 => by
    have h1 := J6 e he c hc
    have h2 := one gt f hf c hc2
    omega
  have J7 := fun e (he : e ∈ ((((([(Cell.v x0, Lo)] ++ [(Cell.v x1, Lv)]) ++ [(Cell.v x2, Lx)]) ++ [(Cell.v x3, Ly)]) ++ [(Cell.v x4, Lz)]) ++ [(Cell.v x5, Ls)]) ++ [(Cell.v x6, Lt)]) c (hc : Fw.blk e.1 = some c) => (List.mem_append.1 he).elim (fun h => Or.inl (J6 e h c hc)) (fun h => Or.inr (one gt e h c hc))
  have L8 := L7.app ((shLst hA17 (fun j _ => hrn j)).mono (by omega)) fun e he f hf c hc hc2 => by
    have h1 := J7 e he c hc
    have h2 := (rA f hf c hc2).1
    omega
  have L9 := L8.app ((shLst hB17 (fun j _ => hrn j)).mono (by omega)) fun e he f hf c hc hc2 => by
    have h2 := rB f hf c hc2
    rcases List.mem_append.1 he with he | he
    · have h1 := J7 e he c hc; omega
    · have h1 := (rA e he c hc).1; omega
  have hEb : ∀ e ∈ ((((((([(Cell.v x0, Lo)] ++ [(Cell.v x1, Lv)]) ++ [(Cell.v x2, Lx)]) ++ [(Cell.v x3, Ly)]) ++ [(Cell.v x4, Lz)]) ++ [(Cell.v x5, Ls)]) ++ [(Cell.v x6, Lt)]) ++ rowsE hA2 (rowS f K G xT)) ++ rowsE hB2 (rowS f K G xT), ∀ c, Fw.blk e.1 = some c → w4.heap.size ≤ c := fun e he c hc => by
    rcases List.mem_append.1 he with he | he
    · rcases List.mem_append.1 he with he | he
      · have h1 := J7 e he c hc; omega
      · have h1 := (rA e he c hc).1; omega
    · have h1 := rB e he c hc; omega
  have hEl : ∀ e ∈ ((((((([(Cell.v x0, Lo)] ++ [(Cell.v x1, Lv)]) ++ [(Cell.v x2, Lx)]) ++ [(Cell.v x3, Ly)]) ++ [(Cell.v x4, Lz)]) ++ [(Cell.v x5, Ls)]) ++ [(Cell.v x6, Lt)]) ++ rowsE hA2 (rowS f K G xT)) ++ rowsE hB2 (rowS f K G xT), e.2.length ≤ 1000 := fun e he => by
    simp only [List.mem_append, List.mem_singleton] at he
    rcases he with (((((((rfl | rfl) | rfl) | rfl) | rfl) | rfl) | rfl) | he) | he
    · show Lo.length ≤ 1000; omega
    · show Lv.length ≤ 1000; omega
    · show Lx.length ≤ 1000; omega
    · show Ly.length ≤ 1000; omega
    · show Lz.length ≤ 1000; omega
    · show Ls.length ≤ 1000; omega
    · show Lt.length ≤ 1000; omega
    · obtain ⟨j, hj, rfl⟩ := rowsE_mem he; show (rowS f K G xT j).length ≤ 1000; rw [rowS_len]; omega
    · obtain ⟨j, hj, rfl⟩ := rowsE_mem he; show (rowS f K G xT j).length ≤ 1000; rw [rowS_len]; omega
  clear L1 L2 L3 L4 L5 L6 L7 L8 J1 J2 J3 J4 J5 J6 J7 rA rB
  generalize hE : ((((((([(Cell.v x0, Lo)] ++ [(Cell.v x1, Lv)]) ++ [(Cell.v x2, Lx)]) ++ [(Cell.v x3, Ly)]) ++ [(Cell.v x4, Lz)]) ++ [(Cell.v x5, Ls)]) ++ [(Cell.v x6, Lt)]) ++ rowsE hA2 (rowS f K G xT)) ++ rowsE hB2 (rowS f K G xT) = Es at L9 hEb hEl
  have hEh : Es.map (fun e => hd e.1) = ([x0, x1, x2, x3, x4, x5, x6] ++ hA2) ++ hB2 := by
    rw [← hE]
    simp only [List.map_append, rowsE_hd, List.map_cons, List.map_nil, hd_v, List.append_assoc, List.cons_append, List.nil_append]
  have lE : Es.length = 7 + hA2.length + hB2.length := by
    have := congrArg List.length hEh
    simp only [List.length_map, List.length_append, List.length_cons, List.length_nil] at this
    omega
  clear hE
  refine X_bsl (zs := [x0, x1, x2, x3, x4, x5, x6]) (fill7h x0 x1 x2 x3 x4 x5 x6) (by rfl) fun r1 w28 or hB => ?_
  have gA7 := hA17.top.up hB
  simp (maxSteps := 1000000) (disch := omega) only [WS, List.getElem_cons_zero, List.getElem_cons_succ, Option.isNone_some, Option.isNone_none, List.getD_cons_zero, List.getD_cons_succ, I.at, atL, atO, atP, evp, evs, retV, ↓reduceIte, Nat.reduceEqDiff, reduceCtorEq, AS, t4, t6, t7, t15, t17, t20, t23, t25]
  refine or.Xapp2 gA7.sl hB.size (by simp only [List.length_cons, List.length_nil, maxBytes]; omega) (by simp only [List.length_cons, List.length_nil]; omega) fun r2 w29 or2 hg => ?_
  have hB := hg.below hB hB.size fun b hb => (or.blk b hb).1
  clear hg or gA7
  have gB7 := hB17.top.up hB
  simp (maxSteps := 1000000) (disch := omega) only [WS, List.getElem_cons_zero, List.getElem_cons_succ, Option.isNone_some, Option.isNone_none, List.getD_cons_zero, List.getD_cons_succ, I.at, atL, atO, atP, evp, evs, retV, ↓reduceIte, Nat.reduceEqDiff, reduceCtorEq, AS, t4, t6, t7, t15, t17, t20, t23, t25]
  refine or2.Xapp2 gB7.sl hB.size (by simp only [List.length_append, List.length_cons, List.length_nil, maxBytes]; omega) (by simp only [List.length_append, List.length_cons, List.length_nil]; omega) fun r3 w30 or3 hg => ?_
  have hB := hg.below hB hB.size fun b hb => (or2.blk b hb).1
  clear hg or2 gB7
  rw [← hEh] at or3
  have q30 := hB.size
  have hF30 : RowKit.Below w.heap.size w w30 := B.trans (hB.mono B.size)
  have hEb2 : ∀ e ∈ Es, ∀ c, Fw.blk e.1 = some c → w.heap.size ≤ c := fun e he c hc => Nat.le_trans hw4 (hEb e he c hc)
  have q27 : w4.heap.size ≤ w27.heap.size := by omega
  have lE1 : 0 < Es.length := by omega
  have lE2 : Es.length ≤ 250 := by omega
  simp (maxSteps := 1000000) (disch := omega) only [WS, List.getElem_cons_zero, List.getElem_cons_succ, Option.isNone_some, Option.isNone_none, List.getD_cons_zero, List.getD_cons_succ, I.at, atL, atO, atP, evp, evs, retV, ↓reduceIte, Nat.reduceEqDiff, reduceCtorEq, AS, t4, t6, t7, t15, t17, t20, t23, t25]
  refine X_call0 ((apart_end w w27 w30 w4.heap.size Es r3 L9 hEb2 hEl q27 (Nat.le_trans hw4 q27) hB hF30 or3 lE1 lE2).mono ?_)
  rintro _ w31 ⟨rfl, hF31⟩
  simp (maxSteps := 1000000) (disch := omega) only [WS, List.getElem_cons_zero, List.getElem_cons_succ, Option.isNone_some, Option.isNone_none, List.getD_cons_zero, List.getD_cons_succ, I.at, atL, atO, atP, evp, evs, retV, ↓reduceIte, Nat.reduceEqDiff, reduceCtorEq, AS]
  exact hF31
end Go.Proofs.Ytbaljbadlfopgaa.Fw
