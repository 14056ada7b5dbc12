import Derived.Test.YtpmfeaajpjjfiaaProg
import Derived.Test.YtpmfeaajpjjfiaaFwTA
import Derived.Test.YtpmfeaajpjjfiaaSS14oA
import Derived.Test.YtpmfeaajpjjfiaaGfNA
import Derived.Test.YtpmfeaajpjjfiaaSS14vA
import Derived.Test.YtpmfeaajpjjfiaaFwZA
import Derived.Test.YtpmfeaajpjjfiaaSS14sA
set_option linter.all false
set_option linter.unusedVariables false
set_option linter.unusedSimpArgs false
set_option maxRecDepth 100000
set_option maxHeartbeats 1000000
namespace Go.Proofs.Ytpmfeaajpjjfiaa.Fw
open Go Go.Fw Go.Proofs
attribute [local irreducible] stepI
end Go.Proofs.Ytpmfeaajpjjfiaa.Fw
namespace Go.Proofs.Ytpmfeaajpjjfiaa.Fw
open Go Go.Fw
end Go.Proofs.Ytpmfeaajpjjfiaa.Fw

set_option linter.unusedVariables false
set_option linter.unusedSimpArgs false
set_option maxRecDepth 100000
set_option maxHeartbeats 1000000
namespace Go.Proofs.Ytpmfeaajpjjfiaa.Fw
open Go Go.Fw Go.Proofs
attribute [local irreducible] stepI
end Go.Proofs.Ytpmfeaajpjjfiaa.Fw
namespace Go.Proofs.Ytpmfeaajpjjfiaa.Fw
open Go Go.Fw
theorem shl_one (i : Nat) (hi : i ≤ 60) : shlV .i64 1 (i : Int) = ((2 ^ i : Nat) : Int) := by
  have h : 2 ^ i < 2 ^ 63 := Nat.pow_lt_pow_right (by omega) (by omega)
  have := shl_nat fits_i64 1 i (by show i ≤ 64; omega) (by rw [Nat.one_mul]; exact h)
  rw [Nat.one_shiftLeft] at this
  exact this
end Go.Proofs.Ytpmfeaajpjjfiaa.Fw

set_option linter.unusedVariables false
set_option linter.unusedSimpArgs false
set_option maxRecDepth 100000
set_option maxHeartbeats 1000000
namespace Go.Proofs.Ytpmfeaajpjjfiaa.Fw
open Go Go.Fw Go.Proofs
attribute [local irreducible] stepI
def c_culletref03_ElementsTo : C := .seq (.ops [⟨0, (some 2), none, .mov (.c (.slice none 0 0)), []⟩]) (.seq (.ops [⟨0, (some 8), none, .call (.c (.func (.func 83) #[] #[])) [], []⟩, ⟨1, (some 3), none, .mov (.t 8), []⟩]) (.seq (.ops [⟨0, (some 9), none, .mov (.t 0), []⟩, ⟨1, (some 10), none, .cnv .u64 (.t 9), []⟩, ⟨2, (some 11), none, .bin .shl (.c (.int .i64 1)) (.t 10), []⟩, ⟨3, (some 12), none, .mks 31 2 [.int .u16 0] (.c (.int .i64 1)) (.t 11), []⟩, ⟨4, (some 4), none, .mov (.t 12), []⟩]) (.seq (.seq (.ops [⟨0, (some 5), none, .mov (.c (.int .i64 0)), []⟩]) (.block 0 (.loop (.seq (.seq (.ops [⟨0, (some 13), none, .mov (.t 5), []⟩, ⟨1, (some 14), none, .mov (.t 0), []⟩, ⟨2, (some 15), none, .bin .lss (.t 13) (.t 14), []⟩]) (.ite (.t 15) .skip (.exit 0))) (.seq (.block 1 (.seq (.ops [⟨0, (some 18), none, .mov (.t 4), []⟩, ⟨1, (some 19), none, .len (.t 18), []⟩, ⟨2, (some 6), none, .mov (.t 19), []⟩]) (.seq (.ops [⟨0, (some 7), none, .mov (.c (.int .i64 0)), []⟩]) (.block 2 (.loop (.seq (.seq (.ops [⟨0, (some 20), none, .mov (.t 7), []⟩, ⟨1, (some 21), none, .mov (.t 6), []⟩, ⟨2, (some 22), none, .bin .lss (.t 20) (.t 21), []⟩]) (.ite (.t 22) .skip (.exit 2))) (.seq (.block 3 (.dops [⟨0, (some 25), none, .mov (.t 4), []⟩, ⟨1, (some 26), none, .mov (.t 4), []⟩, ⟨2, (some 27), none, .mov (.t 7), []⟩, ⟨3, (some 28), none, .ixs 1 (.t 26) (.t 27), []⟩, ⟨4, (some 29), none, .ld (.t 28), []⟩, ⟨5, (some 30), none, .mov (.t 3), []⟩, ⟨6, (some 31), none, .mov (.t 5), []⟩, ⟨7, (some 32), none, .ixs 1 (.t 30) (.t 31), []⟩, ⟨8, (some 33), none, .ld (.t 32), []⟩, ⟨9, (some 34), none, .bin .xor (.t 29) (.t 33), []⟩, ⟨10, (some 35), none, .bsl 31 1 [.int .u16 0] [(0, (1, .t 34))], []⟩, ⟨11, (some 36), none, .app 31 2 [.int .u16 0] (.t 25) (.t 35), []⟩, ⟨12, (some 4), none, .mov (.t 36), []⟩])) (.ops [⟨0, (some 23), none, .mov (.t 7), []⟩, ⟨1, (some 24), none, .bin .add (.t 23) (.c (.int .i64 1)), []⟩, ⟨2, (some 7), none, .mov (.t 24), []⟩])))))))) (.ops [⟨0, (some 16), none, .mov (.t 5), []⟩, ⟨1, (some 17), none, .bin .add (.t 16) (.c (.int .i64 1)), []⟩, ⟨2, (some 5), none, .mov (.t 17), []⟩])))))) (.seq (.ops [⟨0, (some 37), none, .mov (.t 4), []⟩, ⟨1, (some 2), none, .mov (.t 37), []⟩]) .ret))))
attribute [irreducible] c_culletref03_ElementsTo
theorem run_culletref03_ElementsTo {args : List Value} {w : World} {K : Value → World → Prop} (hn : args.length ≤ 38) (h : WP Try.prog c_culletref03_ElementsTo (endQ [.t 2] K) (initT args) w) : CallV Try.prog 81 args w K :=
  call_of follows Try.func81 (by kernel_rfl) (by kernel_rfl) hn h
end Go.Proofs.Ytpmfeaajpjjfiaa.Fw
namespace Go.Proofs.Ytpmfeaajpjjfiaa.Fw
open Go Go.Fw
theorem wel_cbs : ∀ t < 16, wel (2 ^ t) = ⟨cbs.getD t 0⟩ := by decide +kernel
def wls (n : Nat) : List (El 16) := (List.range n).map wel
theorem wls_len (n : Nat) : (wls n).length = n := by simp [wls]
theorem wls_get {n i : Nat} (h : i < (wls n).length) : (wls n)[i] = wel i := by simp [wls]
theorem wls_succ (n : Nat) : wls n ++ [wel n] = wls (n + 1) := by unfold wls; rw [List.range_succ, List.map_append]; rfl
theorem culletref03_ElementsTo_spec (w : World) (r : Nat) (hr : r ≤ 16) : CallV Try.prog 81 [.int .i64 (r : Int)] w fun v w' => Ow w.heap.size w' v (wls (2 ^ r)) ∧ RowKit.Below w.heap.size w w' := by
  refine run_culletref03_ElementsTo (by simp) ?_
  simp only [c_culletref03_ElementsTo, WS, List.getElem_cons_zero, List.getElem_cons_succ, Option.isNone_some, Option.isNone_none, List.getD_cons_zero, List.getD_cons_succ, I.at, atL, atO, atP, evp, evs, retV, ↓reduceIte, Nat.reduceEqDiff, reduceCtorEq]
  have h0 := Nat.two_pow_pos r
  have h16 := pow_le16' hr
  refine X_call0 ((culletref03_Basis_spec w).mono ?_)
  rintro sb w1 ⟨ob, hB⟩
  have S1 := hB.size
  have ob := ob.sl
  have B := hB
  clear hB
  have l16 := cbl_len 16
  have f1 : IntKind.u64.wrap (r : Int) = (r : Int) := wrap_u64 r (by omega)
  have fnn : ((0 : Int) ≤ (r : Int)) = True := eq_true (by omega)
  have e1 := shl_one r (by omega)
  simp (maxSteps := 1000000) (disch := omega) only [WS, List.getElem_cons_zero, List.getElem_cons_succ, Option.isNone_some, Option.isNone_none, List.getD_cons_zero, List.getD_cons_succ, I.at, atL, atO, atP, evp, evs, retV, ↓reduceIte, Nat.reduceEqDiff, reduceCtorEq, AS, f1, X_shl, fnn, e1]
  refine X_mksC (x := (0 : El 16)) (n := 1) (c := 2 ^ r) (by omega) (by simp only [maxBytes]; omega) (by omega) fun sv w2 ov hB => ?_
  have ob := ob.up hB
  obtain ⟨bb, hbb, hblt⟩ := ob.blk_lt (by intro e; rw [e] at l16; simp at l16)
  have hne : ∀ b, Fw.blk sv = some b → Fw.blk sb ≠ some b := fun b hb e => by
    have h1 := (ov.blk b hb).1
    obtain ⟨b2, hb2, hlt2⟩ := (show Sl w1 sb (cbl 16) by assumption).blk_lt (by intro e; rw [e] at l16; simp at l16)
    rw [e] at hb2; cases hb2; omega
  have ov := ov.mono S1
  have B := B.trans (hB.mono B.size)
  clear hB
  simp (maxSteps := 1000000) (disch := omega) only [WS, List.getElem_cons_zero, List.getElem_cons_succ, Option.isNone_some, Option.isNone_none, List.getD_cons_zero, List.getD_cons_succ, I.at, atL, atO, atP, evp, evs, retV, ↓reduceIte, Nat.reduceEqDiff, reduceCtorEq, AS]
  refine loop_of (fun t w' => t 0 = .int .i64 (r : Int) ∧ t 3 = sb ∧ RowKit.Below w.heap.size w w' ∧ Sl w' sb (cbl 16) ∧ ∃ (k : Nat) (sv : Value), t 5 = .int .i64 (k : Int) ∧ k ≤ r ∧ t 4 = sv ∧ Ow w.heap.size w' sv (wls (2 ^ k)) ∧ (∀ b, Fw.blk sv = some b → Fw.blk sb ≠ some b)) (fun t _ => r - (toI (t 5)).toNat)
    ⟨by simp only [WS, List.getElem_cons_zero, List.getElem_cons_succ, Option.isNone_some, Option.isNone_none, List.getD_cons_zero, List.getD_cons_succ, I.at, atL, atO, atP, evp, evs, retV, ↓reduceIte, Nat.reduceEqDiff, reduceCtorEq], by simp only [WS, List.getElem_cons_zero, List.getElem_cons_succ, Option.isNone_some, Option.isNone_none, List.getD_cons_zero, List.getD_cons_succ, I.at, atL, atO, atP, evp, evs, retV, ↓reduceIte, Nat.reduceEqDiff, reduceCtorEq], B, ob, 0, sv, rfl, by omega, by simp only [WS, List.getElem_cons_zero, List.getElem_cons_succ, Option.isNone_some, Option.isNone_none, List.getD_cons_zero, List.getD_cons_succ, I.at, atL, atO, atP, evp, evs, retV, ↓reduceIte, Nat.reduceEqDiff, reduceCtorEq], by
      have : List.replicate 1 (0 : El 16) = wls (2 ^ 0) := by show [(0 : El 16)] = [wel 0]; rw [wel_zero]
      rw [this] at ov; exact ov, hne⟩ ?_
  clear B ob ov hne hblt
  rintro t w3 ⟨t0, t3, B, ob, k, sv, t5, hk, t4, ov, hne⟩
  have k0 := Nat.two_pow_pos k
  have k16 := pow_le16' (Nat.le_trans hk hr)
  by_cases hkr : k < r
  · have hkk : 2 ^ (k + 1) = 2 * 2 ^ k := by rw [Nat.pow_succ, Nat.mul_comm]
    simp (maxSteps := 1000000) (disch := omega) only [WS, List.getElem_cons_zero, List.getElem_cons_succ, Option.isNone_some, Option.isNone_none, List.getD_cons_zero, List.getD_cons_succ, I.at, atL, atO, atP, evp, evs, retV, ↓reduceIte, Nat.reduceEqDiff, reduceCtorEq, AS, t0, t3, t4, t5, ov.sl.Xlen, wls_len]
    refine loop_of (fun t w' => t 0 = .int .i64 (r : Int) ∧ t 3 = sb ∧ t 5 = .int .i64 (k : Int) ∧ t 6 = .int .i64 ((2 ^ k : Nat) : Int) ∧ RowKit.Below w.heap.size w w' ∧ Sl w' sb (cbl 16) ∧ ∃ (i : Nat) (sv : Value), t 7 = .int .i64 (i : Int) ∧ i ≤ 2 ^ k ∧ t 4 = sv ∧ Ow w.heap.size w' sv (wls (2 ^ k + i)) ∧ (∀ b, Fw.blk sv = some b → Fw.blk sb ≠ some b)) (fun t _ => 2 ^ k - (toI (t 7)).toNat)
      ⟨by simp only [WS, List.getElem_cons_zero, List.getElem_cons_succ, Option.isNone_some, Option.isNone_none, List.getD_cons_zero, List.getD_cons_succ, I.at, atL, atO, atP, evp, evs, retV, ↓reduceIte, Nat.reduceEqDiff, reduceCtorEq]; exact t0, by simp only [WS, List.getElem_cons_zero, List.getElem_cons_succ, Option.isNone_some, Option.isNone_none, List.getD_cons_zero, List.getD_cons_succ, I.at, atL, atO, atP, evp, evs, retV, ↓reduceIte, Nat.reduceEqDiff, reduceCtorEq]; exact t3, by simp only [WS, List.getElem_cons_zero, List.getElem_cons_succ, Option.isNone_some, Option.isNone_none, List.getD_cons_zero, List.getD_cons_succ, I.at, atL, atO, atP, evp, evs, retV, ↓reduceIte, Nat.reduceEqDiff, reduceCtorEq]; exact t5, by simp only [WS, List.getElem_cons_zero, List.getElem_cons_succ, Option.isNone_some, Option.isNone_none, List.getD_cons_zero, List.getD_cons_succ, I.at, atL, atO, atP, evp, evs, retV, ↓reduceIte, Nat.reduceEqDiff, reduceCtorEq], B, ob, 0, sv, rfl, by omega, by simp only [WS, List.getElem_cons_zero, List.getElem_cons_succ, Option.isNone_some, Option.isNone_none, List.getD_cons_zero, List.getD_cons_succ, I.at, atL, atO, atP, evp, evs, retV, ↓reduceIte, Nat.reduceEqDiff, reduceCtorEq]; exact t4, ov, hne⟩ ?_
    clear t0 t3 t4 t5 B ob ov hne
    rintro t w4 ⟨t0, t3, t5, t6, B, ob, i, sv, t7, hi, t4, ov, hne⟩
    by_cases hik : i < 2 ^ k
    · have iv : i < (wls (2 ^ k + i)).length := by rw [wls_len]; omega
      have kb : k < (cbl 16).length := by omega
      have hgi := wls_get iv
      have hgk := cbl_get kb
      have hx : wel i + (⟨cbs.getD k 0⟩ : El 16) = wel (2 ^ k + i) := by rw [wel_pow_add hik, wel_cbs k (by omega)]; exact El.add_comm _ _
      have hxx : bitsOp .xor .u16 ((wel i).v.toNat : Int) ((cbs.getD k 0).toNat : Int) = ((wel (2 ^ k + i)).v.toNat : Int) := by rw [← hx]; exact xor16 (wel i) ⟨cbs.getD k 0⟩
      simp (maxSteps := 1000000) (disch := omega) only [WS, List.getElem_cons_zero, List.getElem_cons_succ, Option.isNone_some, Option.isNone_none, List.getD_cons_zero, List.getD_cons_succ, I.at, atL, atO, atP, evp, evs, retV, ↓reduceIte, Nat.reduceEqDiff, reduceCtorEq, AS, t0, t3, t4, t5, t6, t7]
      refine WP_dops ?_
      have ovd := ov.sl.drew
      have obd := ob.drew
      simp (maxSteps := 1000000) (disch := omega) only [ES, List.mem_cons, List.not_mem_nil, implies_true, forall_const, WS, List.getElem_cons_zero, List.getElem_cons_succ, Option.isNone_some, Option.isNone_none, List.getD_cons_zero, List.getD_cons_succ, I.at, atL, atO, atP, evp, evs, retV, ↓reduceIte, Nat.reduceEqDiff, reduceCtorEq, AS, t0, t3, t4, t5, t6, t7, ovd.Eix iv, ovd.Eld iv, obd.Eix kb, obd.Eld kb, hgi, hgk, cell_e16, hxx]
      refine E_bsl (zs := [wel (2 ^ k + i)]) (by rfl) (by rfl) fun se w5 oe hB => ?_
      have hB5 : RowKit.Below w4.heap.size w4 w5 := (bel_drew w4).trans hB
      simp (maxSteps := 1000000) (disch := omega) only [ES, List.mem_cons, List.not_mem_nil, implies_true, forall_const, WS, List.getElem_cons_zero, List.getElem_cons_succ, Option.isNone_some, Option.isNone_none, List.getD_cons_zero, List.getD_cons_succ, I.at, atL, atO, atP, evp, evs, retV, ↓reduceIte, Nat.reduceEqDiff, reduceCtorEq, AS, t0, t3, t4, t5, t6, t7]
      refine Ow.Eapp (ov.up hB5) oe.sl (Nat.le_trans B.size hB5.size) (by rw [wls_len]; simp only [List.length_singleton, maxBytes]; omega) (by rw [wls_len]; simp only [List.length_singleton]; omega) fun s6 w6 o6 hg hn => ?_
      rw [wls_succ] at o6
      have hvb := ov.blk
      have ob6 : Sl w6 sb (cbl 16) := (ob.up hB5).grown hg (by
        left
        intro e
        obtain ⟨b, hb, -⟩ := ob.blk_lt (by intro e; rw [e] at l16; simp at l16)
        exact hne b (e ▸ hb) hb)
      have hne6 : ∀ b, Fw.blk s6 = some b → Fw.blk sb ≠ some b := fun b hb => by
        rcases hn with h1 | h1
        · exact hne b (h1 ▸ hb)
        · intro e
          obtain ⟨b2, hb2, hlt2⟩ := ob.blk_lt (by intro e; rw [e] at l16; simp at l16)
          rw [e] at hb2; cases hb2
          have := h1 b hb
          have := hB5.size
          omega
      have B6 := (B.trans (hB5.mono B.size)).grown hg (Nat.le_trans B.size hB5.size) fun b hb => (hvb b hb).1
      simp (maxSteps := 1000000) (disch := omega) only [ES, List.mem_cons, List.not_mem_nil, implies_true, forall_const, WS, List.getElem_cons_zero, List.getElem_cons_succ, Option.isNone_some, Option.isNone_none, List.getD_cons_zero, List.getD_cons_succ, I.at, atL, atO, atP, evp, evs, retV, ↓reduceIte, Nat.reduceEqDiff, reduceCtorEq, AS, t0, t3, t4, t5, t6, t7]
      exact ⟨⟨B6, ob6, i + 1, s6, rfl, by omega, rfl, o6, hne6⟩, by omega⟩
    · obtain rfl : i = 2 ^ k := by omega
      simp (maxSteps := 1000000) (disch := omega) only [WS, List.getElem_cons_zero, List.getElem_cons_succ, Option.isNone_some, Option.isNone_none, List.getD_cons_zero, List.getD_cons_succ, I.at, atL, atO, atP, evp, evs, retV, ↓reduceIte, Nat.reduceEqDiff, reduceCtorEq, AS, t0, t3, t4, t5, t6, t7]
      exact ⟨⟨B, ob, k + 1, sv, rfl, by omega, rfl, by rw [hkk, Nat.two_mul]; exact ov, hne⟩, by omega⟩
  · obtain rfl : k = r := by omega
    simp (maxSteps := 1000000) (disch := omega) only [WS, List.getElem_cons_zero, List.getElem_cons_succ, Option.isNone_some, Option.isNone_none, List.getD_cons_zero, List.getD_cons_succ, I.at, atL, atO, atP, evp, evs, retV, ↓reduceIte, Nat.reduceEqDiff, reduceCtorEq, AS, t0, t3, t4, t5]
    exact ⟨ov, B⟩
end Go.Proofs.Ytpmfeaajpjjfiaa.Fw
