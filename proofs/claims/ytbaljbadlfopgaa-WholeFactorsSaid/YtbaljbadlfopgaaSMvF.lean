import Derived.Test.YtbaljbadlfopgaaProg
import Derived.Test.YtbaljbadlfopgaaFwTF
import Derived.Test.YtbaljbadlfopgaaSMgF
import Derived.Test.YtbaljbadlfopgaaFwVF
import Derived.Test.YtbaljbadlfopgaaGfQF
import Derived.Test.YtbaljbadlfopgaaGfSF
set_option linter.all false
set_option linter.unusedVariables false
set_option linter.unusedSimpArgs false
set_option maxRecDepth 100000
set_option maxHeartbeats 1000000
namespace Go.Proofs.Ytbaljbadlfopgaa.Fw
open Go Go.Fw Go.Proofs
attribute [local irreducible] stepI
def c_polys_Ring_w_Eval : C := .seq (.ops [⟨0, (some 6), none, .mov (.c (.int .u16 0)), []⟩]) (.seq (.ops [⟨0, (some 7), none, .mov (.c (.int .u16 0)), []⟩]) (.seq (.seq (.ops [⟨0, (some 9), none, .mov (.t 0), []⟩, ⟨1, (some 10), none, .eqp false (.t 9) (.c (.pointer none)), []⟩]) (.ite (.t 10) (.seq (.ops [⟨0, (some 11), none, .mov (.t 7), []⟩, ⟨1, (some 6), none, .mov (.t 11), []⟩]) .ret) .skip)) (.seq (.seq (.ops [⟨0, (some 12), none, .mov (.t 1), []⟩, ⟨1, (some 13), none, .len (.t 12), []⟩, ⟨2, (some 14), none, .bin .sub (.t 13) (.c (.int .i64 1)), []⟩, ⟨3, (some 8), none, .mov (.t 14), []⟩]) (.block 0 (.loop (.seq (.seq (.ops [⟨0, (some 15), none, .mov (.t 8), []⟩, ⟨1, (some 16), none, .bin .geq (.t 15) (.c (.int .i64 0)), []⟩]) (.ite (.t 16) .skip (.exit 0))) (.seq (.block 1 (.dops [⟨0, (some 19), none, .mov (.t 0), []⟩, ⟨1, (some 20), none, .nil (.t 19), []⟩, ⟨2, (some 21), none, .fad 0 (.t 20), []⟩, ⟨3, (some 22), none, .ld (.t 21), []⟩, ⟨4, (some 23), none, .mov (.t 7), []⟩, ⟨5, (some 24), none, .mov (.t 2), []⟩, ⟨6, (some 25), none, .call (.t 22) [.t 23, .t 24], []⟩, ⟨7, (some 26), none, .mov (.t 1), []⟩, ⟨8, (some 27), none, .mov (.t 8), []⟩, ⟨9, (some 28), none, .ixs 1 (.t 26) (.t 27), []⟩, ⟨10, (some 29), none, .ld (.t 28), [6]⟩, ⟨11, (some 30), none, .bin .xor (.t 25) (.t 29), []⟩, ⟨12, (some 7), none, .mov (.t 30), []⟩])) (.ops [⟨0, (some 17), none, .mov (.t 8), []⟩, ⟨1, (some 18), none, .bin .sub (.t 17) (.c (.int .i64 1)), []⟩, ⟨2, (some 8), none, .mov (.t 18), []⟩])))))) (.seq (.ops [⟨0, (some 31), none, .mov (.t 7), []⟩, ⟨1, (some 6), none, .mov (.t 31), []⟩]) .ret))))
attribute [irreducible] c_polys_Ring_w_Eval
theorem run_polys_Ring_w_Eval {args : List Value} {w : World} {K : Value → World → Prop} (hn : args.length ≤ 32) (h : WP Try.prog c_polys_Ring_w_Eval (endQ [.t 6] K) (initT args) w) : CallV Try.prog 38 args w K :=
  call_of follows Try.func38 (by kernel_rfl) (by kernel_rfl) hn h
def c_polys_Ring_w_refuses : C := .seq (.ops [⟨0, (some 4), none, .mov (.c (.int .i64 0)), []⟩]) (.seq (.seq (.ops [⟨0, (some 7), none, .mov (.t 0), []⟩, ⟨1, (some 8), none, .eqp false (.t 7) (.c (.pointer none)), []⟩]) (.ite (.t 8) (.seq (.ops [⟨0, (some 4), none, .mov (.c (.int .i64 1)), []⟩]) .ret) .skip)) (.seq (.seq (.ops [⟨0, (some 9), none, .mov (.t 1), []⟩, ⟨1, (some 10), none, .len (.t 9), []⟩, ⟨2, (some 11), none, .mov (.c (.int .i64 0)), []⟩]) (.block 0 (.loop (.seq (.ops [⟨0, (some 12), none, .bin .lss (.t 11) (.t 10), []⟩]) (.seq (.ite (.t 12) .skip (.exit 0)) (.seq (.block 1 (.seq (.ops [⟨0, (some 13), none, .ixs 1 (.t 9) (.t 11), []⟩, ⟨1, (some 14), none, .ld (.t 13), []⟩, ⟨2, (some 6), none, .mov (.t 14), []⟩]) (.seq (.ops [⟨0, (some 15), none, .mov (.t 6), []⟩, ⟨1, (some 16), none, .len (.t 15), []⟩, ⟨2, (some 17), none, .bin .gtr (.t 16) (.c (.int .i64 1024)), []⟩]) (.ite (.t 17) (.seq (.ops [⟨0, (some 4), none, .mov (.c (.int .i64 5)), []⟩]) .ret) .skip)))) (.ops [⟨0, (some 18), none, .bin .add (.t 11) (.c (.int .i64 1)), []⟩, ⟨1, (some 11), none, .mov (.t 18), []⟩]))))))) (.seq (.ops [⟨0, (some 4), none, .mov (.c (.int .i64 0)), []⟩]) .ret)))
attribute [irreducible] c_polys_Ring_w_refuses
theorem run_polys_Ring_w_refuses {args : List Value} {w : World} {K : Value → World → Prop} (hn : args.length ≤ 19) (h : WP Try.prog c_polys_Ring_w_refuses (endQ [.t 4] K) (initT args) w) : CallV Try.prog 72 args w K :=
  call_of follows Try.func72 (by kernel_rfl) (by kernel_rfl) hn h
def c_polys_copied_w : C := .seq (.ops [⟨0, (some 2), none, .mov (.c (.slice none 0 0)), []⟩]) (.seq (.ops [⟨0, (some 3), none, .mov (.t 0), []⟩, ⟨1, (some 4), none, .mov (.t 0), []⟩, ⟨2, (some 5), none, .call (.c (.func (.func 114) #[] #[])) [.t 4], []⟩, ⟨3, (some 6), none, .bin .add (.t 5) (.c (.int .i64 1)), []⟩, ⟨4, (some 7), none, .slc 1 (.t 3) none (some (.t 6)) none, []⟩, ⟨5, (some 8), none, .app 73 2 [.int .u16 0] (.c (.slice none 0 0)) (.t 7), []⟩, ⟨6, (some 2), none, .mov (.t 8), []⟩]) .ret)
attribute [irreducible] c_polys_copied_w
theorem run_polys_copied_w {args : List Value} {w : World} {K : Value → World → Prop} (hn : args.length ≤ 9) (h : WP Try.prog c_polys_copied_w (endQ [.t 2] K) (initT args) w) : CallV Try.prog 77 args w K :=
  call_of follows Try.func77 (by kernel_rfl) (by kernel_rfl) hn h
def c_polys_degree_w : C := .seq (.ops [⟨0, (some 2), none, .mov (.c (.int .i64 0)), []⟩]) (.seq (.ops [⟨0, (some 4), none, .mov (.t 0), []⟩, ⟨1, (some 5), none, .len (.t 4), []⟩, ⟨2, (some 6), none, .bin .sub (.t 5) (.c (.int .i64 1)), []⟩, ⟨3, (some 3), none, .mov (.t 6), []⟩]) (.seq (.block 0 (.loop (.seq (.seq (.ops [⟨0, (some 7), none, .mov (.t 3), []⟩, ⟨1, (some 8), none, .bin .geq (.t 7) (.c (.int .i64 0)), []⟩, ⟨2, (some 9), none, .mov (.t 8), []⟩, ⟨3, (some 10), (some (9, true)), .mov (.t 0), []⟩, ⟨4, (some 11), (some (9, true)), .mov (.t 3), []⟩, ⟨5, (some 12), (some (9, true)), .ixs 1 (.t 10) (.t 11), []⟩, ⟨6, (some 13), (some (9, true)), .ld (.t 12), []⟩, ⟨7, (some 14), (some (9, true)), .bin .eql (.t 13) (.c (.int .u16 0)), []⟩, ⟨8, (some 15), none, .pick (.t 9) (.t 14) (.c (.bool false)), []⟩]) (.ite (.t 15) .skip (.exit 0))) (.block 1 (.ops [⟨0, (some 16), none, .mov (.t 3), []⟩, ⟨1, (some 17), none, .bin .sub (.t 16) (.c (.int .i64 1)), []⟩, ⟨2, (some 3), none, .mov (.t 17), []⟩]))))) (.seq (.ops [⟨0, (some 18), none, .mov (.t 3), []⟩, ⟨1, (some 2), none, .mov (.t 18), []⟩]) .ret)))
attribute [irreducible] c_polys_degree_w
theorem run_polys_degree_w {args : List Value} {w : World} {K : Value → World → Prop} (hn : args.length ≤ 19) (h : WP Try.prog c_polys_degree_w (endQ [.t 2] K) (initT args) w) : CallV Try.prog 114 args w K :=
  call_of follows Try.func114 (by kernel_rfl) (by kernel_rfl) hn h
end Go.Proofs.Ytbaljbadlfopgaa.Fw
namespace Go.Proofs.Ytbaljbadlfopgaa.Fw
open Go Go.Fw
theorem polys_degree_w_spec (w : World) (s : Value) (l : List (El 16)) (h : Sl w s l) (hb : l.length ≤ 70368744175616) : CallV Try.prog 114 [s] w fun v w' => v = .int .i64 ((tln l : Int) - 1) ∧ w' = w := by
  refine run_polys_degree_w (by simp) ?_
  simp only [c_polys_degree_w, WS, List.getElem_cons_zero, List.getElem_cons_succ, Option.isNone_some, Option.isNone_none, List.getD_cons_zero, List.getD_cons_succ, I.at, atL, atO, atP, evp, evs, retV, ↓reduceIte, Nat.reduceEqDiff, reduceCtorEq, h.Xlen, wrap_id (show -9223372036854775808 ≤ (l.length : Int) - 1 by omega) (show (l.length : Int) - 1 < 9223372036854775808 by omega)]
  have hle := tln_le l
  refine loop_of (fun t w' => w' = w ∧ t 0 = s ∧ ∃ k : Nat, t 3 = .int .i64 ((k : Int) - 1) ∧ tln l ≤ k ∧ k ≤ l.length) (fun t _ => (toI (t 3) + 1).toNat) ⟨rfl, rfl, l.length, rfl, hle, Nat.le_refl _⟩ ?_
  rintro t w' ⟨rfl, h0, k, h3, hk1, hk2⟩
  rcases Nat.eq_zero_or_pos k with rfl | hp
  · have : tln l = 0 := by omega
    simp only [WS, List.getElem_cons_zero, List.getElem_cons_succ, Option.isNone_some, Option.isNone_none, List.getD_cons_zero, List.getD_cons_succ, I.at, atL, atO, atP, evp, evs, retV, ↓reduceIte, Nat.reduceEqDiff, reduceCtorEq, h0, h3, show decide ((0 : Int) ≤ ((0 : Nat) : Int) - 1) = false from rfl, this]
  · obtain ⟨k, rfl⟩ : ∃ j, k = j + 1 := ⟨k - 1, by omega⟩
    have e1 : ((k + 1 : Nat) : Int) - 1 = (k : Int) := by omega
    rw [e1] at h3
    have hkl : k < l.length := by omega
    by_cases hz : l[k] = 0
    · have d1 : decide (((l[k]).v.toNat : Int) = 0) = true := decide_eq_true ((el_zero _).mpr hz)
      simp only [WS, List.getElem_cons_zero, List.getElem_cons_succ, Option.isNone_some, Option.isNone_none, List.getD_cons_zero, List.getD_cons_succ, I.at, atL, atO, atP, evp, evs, retV, ↓reduceIte, Nat.reduceEqDiff, reduceCtorEq, h0, h3, show decide ((0 : Int) ≤ (k : Int)) = true by simp, h.Xix hkl, h.Xld hkl, cell_e16, d1, wrap_id (show -9223372036854775808 ≤ (k : Int) - 1 by omega) (show (k : Int) - 1 < 9223372036854775808 by omega), toI_int]
      refine ⟨⟨k, rfl, ?_, by omega⟩, by omega⟩
      rcases Nat.lt_or_ge k (tln l) with h1 | h1
      · exfalso
        refine tln_top l k (by omega) ?_
        rw [co_get l hkl]; exact hz
      · exact h1
    · have d1 : decide (((l[k]).v.toNat : Int) = 0) = false := decide_eq_false (fun e => hz ((el_zero _).mp e))
      have : tln l = k + 1 := by
        rcases Nat.lt_or_ge (tln l) (k + 1) with h1 | h1
        · exfalso
          have := tln_dg l k (by omega)
          rw [co_get l hkl] at this
          exact hz this
        · omega
      simp only [WS, List.getElem_cons_zero, List.getElem_cons_succ, Option.isNone_some, Option.isNone_none, List.getD_cons_zero, List.getD_cons_succ, I.at, atL, atO, atP, evp, evs, retV, ↓reduceIte, Nat.reduceEqDiff, reduceCtorEq, h0, h3, show decide ((0 : Int) ≤ (k : Int)) = true by simp, h.Xix hkl, h.Xld hkl, cell_e16, d1, this]
      simp only [WS, List.getElem_cons_zero, List.getElem_cons_succ, Option.isNone_some, Option.isNone_none, List.getD_cons_zero, List.getD_cons_succ, I.at, atL, atO, atP, evp, evs, retV, ↓reduceIte, Nat.reduceEqDiff, reduceCtorEq, e1]
theorem polys_copied_w_spec (w : World) (s : Value) (l : List (El 16)) (h : Sl w s l) (hb : l.length ≤ 70368744175616) :
    CallV Try.prog 77 [s] w fun v w' => Ow w.heap.size w' v (tr l) ∧ RowKit.Below w.heap.size w w' := by
  refine run_polys_copied_w (by simp) ?_
  have hle := tln_le l
  simp only [c_polys_copied_w, WS, List.getElem_cons_zero, List.getElem_cons_succ, Option.isNone_some, Option.isNone_none, List.getD_cons_zero, List.getD_cons_succ, I.at, atL, atO, atP, evp, evs, retV, ↓reduceIte, Nat.reduceEqDiff, reduceCtorEq]
  refine X_call0 ((polys_degree_w_spec w s l h hb).mono ?_)
  rintro v w' ⟨rfl, rfl⟩
  have e1 : IntKind.i64.wrap ((tln l : Int) - 1 + 1) = (tln l : Int) := by rw [wrap_id (by omega) (by omega)]; omega
  have hs := h.sub (show 0 ≤ tln l by omega) hle
  simp only [WS, List.getElem_cons_zero, List.getElem_cons_succ, Option.isNone_some, Option.isNone_none, List.getD_cons_zero, List.getD_cons_succ, I.at, atL, atO, atP, evp, evs, retV, ↓reduceIte, Nat.reduceEqDiff, reduceCtorEq, e1, h.XslcHi hle]
  refine Ow.Xapp (Ow.nil w'.heap.size w') hs (Nat.le_refl _) ?_ ?_ fun s' w2 ho hg _ => ?_
  · simp [maxBytes]; omega
  · simp; omega
  simp only [WS, List.getElem_cons_zero, List.getElem_cons_succ, Option.isNone_some, Option.isNone_none, List.getD_cons_zero, List.getD_cons_succ, I.at, atL, atO, atP, evp, evs, retV, ↓reduceIte, Nat.reduceEqDiff, reduceCtorEq]
  refine ⟨by simpa [tr] using ho, (RowKit.Below.refl _ _).grown hg (Nat.le_refl _) (fun b hb => by simp [Fw.blk, Value.ownBlock] at hb)⟩
end Go.Proofs.Ytbaljbadlfopgaa.Fw

namespace Go.Proofs.Ytbaljbadlfopgaa.Fw
open Go Go.Fw
end Go.Proofs.Ytbaljbadlfopgaa.Fw

namespace Go.Proofs.Ytbaljbadlfopgaa.Fw
open Go Go.Fw
theorem polys_Ring_w_refuses_spec (w : World) (a : Addr) (s : Value) (hs : List Hd) (h : Sl w s hs) (hb : hs.length ≤ 1000) (hn : ∀ x ∈ hs, x.n ≤ 140737488355328) :
    CallV Try.prog 72 [.pointer (some a), s] w fun v w' => v = .int .i64 (if ∀ x ∈ hs, x.n ≤ 1024 then 0 else 5) ∧ w' = w := by
  refine run_polys_Ring_w_refuses (by simp) ?_
  simp only [c_polys_Ring_w_refuses, WS, List.getElem_cons_zero, List.getElem_cons_succ, Option.isNone_some, Option.isNone_none, List.getD_cons_zero, List.getD_cons_succ, I.at, atL, atO, atP, evp, evs, retV, ↓reduceIte, Nat.reduceEqDiff, reduceCtorEq, h.Xlen]
  refine loop_of (fun t w' => w' = w ∧ t 9 = s ∧ t 10 = .int .i64 (hs.length : Int) ∧ ∃ i : Nat, t 11 = .int .i64 (i : Int) ∧ i ≤ hs.length ∧ ∀ x ∈ hs.take i, x.n ≤ 1024) (fun t _ => hs.length - (toI (t 11)).toNat) ⟨rfl, rfl, rfl, 0, rfl, by omega, by simp⟩ ?_
  rintro t w' ⟨rfl, t9, t10, i, t11, hi, hall⟩
  by_cases hlt : i < hs.length
  · simp only [WS, List.getElem_cons_zero, List.getElem_cons_succ, Option.isNone_some, Option.isNone_none, List.getD_cons_zero, List.getD_cons_succ, I.at, atL, atO, atP, evp, evs, retV, ↓reduceIte, Nat.reduceEqDiff, reduceCtorEq, t9, t10, t11, show decide ((i : Int) < (hs.length : Int)) = true from decide_eq_true (by omega), h.Xix hlt, h.Xld hlt, cell_hd, X_lenS]
    by_cases hx : hs[i].n ≤ 1024
    · simp only [WS, List.getElem_cons_zero, List.getElem_cons_succ, Option.isNone_some, Option.isNone_none, List.getD_cons_zero, List.getD_cons_succ, I.at, atL, atO, atP, evp, evs, retV, ↓reduceIte, Nat.reduceEqDiff, reduceCtorEq, t9, t10, t11, show decide ((1024 : Int) < (hs[i].n : Int)) = false from decide_eq_false (by omega), wrap_id (show -9223372036854775808 ≤ (i : Int) + 1 by omega) (show (i : Int) + 1 < 9223372036854775808 by omega), toI_int]
      refine ⟨⟨i + 1, rfl, by omega, fun x hxm => ?_⟩, by omega⟩
      rw [List.take_add_one, List.getElem?_eq_getElem hlt] at hxm
      rcases List.mem_append.1 hxm with h1 | h1
      · exact hall x h1
      · simp at h1; subst h1; exact hx
    · have : ¬ ∀ x ∈ hs, x.n ≤ 1024 := fun h => hx (h _ (List.getElem_mem hlt))
      simp only [WS, List.getElem_cons_zero, List.getElem_cons_succ, Option.isNone_some, Option.isNone_none, List.getD_cons_zero, List.getD_cons_succ, I.at, atL, atO, atP, evp, evs, retV, ↓reduceIte, Nat.reduceEqDiff, reduceCtorEq, t9, t10, t11, show decide ((1024 : Int) < (hs[i].n : Int)) = true from decide_eq_true (by omega), if_neg this]
  · have : ∀ x ∈ hs, x.n ≤ 1024 := by
      rw [List.take_of_length_le (by omega)] at hall; exact hall
    simp only [WS, List.getElem_cons_zero, List.getElem_cons_succ, Option.isNone_some, Option.isNone_none, List.getD_cons_zero, List.getD_cons_succ, I.at, atL, atO, atP, evp, evs, retV, ↓reduceIte, Nat.reduceEqDiff, reduceCtorEq, t9, t10, t11, show decide ((i : Int) < (hs.length : Int)) = false from decide_eq_false (by omega), if_pos this]
theorem polys_Ring_w_Eval_spec (w : World) (r s : Value) (l : List (El 16)) (x : El 16) (hr : Ring_w w r) (h : Sl w s l) (hb : l.length ≤ 70368744175616) :
    CallV Try.prog 38 [r, s, .int .u16 (x.v.toNat : Int)] w fun v w' => v = .int .u16 ((evl l x).v.toNat : Int) ∧ RowKit.Below w.heap.size w w' := by
  obtain ⟨b, mv, iv, rfl, hrow, hm, hiv⟩ := hr
  refine run_polys_Ring_w_Eval (by simp) ?_
  simp only [c_polys_Ring_w_Eval, WS, List.getElem_cons_zero, List.getElem_cons_succ, Option.isNone_some, Option.isNone_none, List.getD_cons_zero, List.getD_cons_succ, I.at, atL, atO, atP, evp, evs, retV, ↓reduceIte, Nat.reduceEqDiff, reduceCtorEq, h.Xlen, wrap_id (show -9223372036854775808 ≤ (l.length : Int) - 1 by omega) (show (l.length : Int) - 1 < 9223372036854775808 by omega)]
  refine loop_of (fun t w' => t 0 = .pointer (some ⟨b, 0, none⟩) ∧ t 1 = s ∧ t 2 = .int .u16 (x.v.toNat : Int) ∧ RowKit.Below w.heap.size w w' ∧ ∃ k : Nat, t 8 = .int .i64 ((k : Int) - 1) ∧ k ≤ l.length ∧ t 7 = .int .u16 ((evl (l.drop k) x).v.toNat : Int)) (fun t _ => (toI (t 8) + 1).toNat)
    ⟨rfl, rfl, rfl, RowKit.Below.refl _ _, l.length, rfl, Nat.le_refl _, by rw [List.drop_length]; rfl⟩ ?_
  rintro t w' ⟨t0, t1, t2, hB, k, t8, hk, t7⟩
  rcases Nat.eq_zero_or_pos k with rfl | hp
  · rw [List.drop_zero] at t7
    simp only [WS, List.getElem_cons_zero, List.getElem_cons_succ, Option.isNone_some, Option.isNone_none, List.getD_cons_zero, List.getD_cons_succ, I.at, atL, atO, atP, evp, evs, retV, ↓reduceIte, Nat.reduceEqDiff, reduceCtorEq, t0, t1, t2, t7, t8, show decide ((0 : Int) ≤ ((0 : Nat) : Int) - 1) = false from rfl]
    exact hB
  · obtain ⟨k, rfl⟩ : ∃ j, k = j + 1 := ⟨k - 1, by omega⟩
    have e1 : ((k + 1 : Nat) : Int) - 1 = (k : Int) := by omega
    rw [e1] at t8
    have hkl : k < l.length := by omega
    obtain ⟨b', mv', iv', hbe, hrow', hm', -⟩ := (show Ring_w w (.pointer (some ⟨b, 0, none⟩)) from ⟨b, mv, iv, rfl, hrow, hm, hiv⟩).up hB
    cases hbe
    have hos := (h.up hB).drew
    simp only [WS, List.getElem_cons_zero, List.getElem_cons_succ, Option.isNone_some, Option.isNone_none, List.getD_cons_zero, List.getD_cons_succ, I.at, atL, atO, atP, evp, evs, retV, ↓reduceIte, Nat.reduceEqDiff, reduceCtorEq, t0, t1, t2, t7, t8, show decide ((0 : Int) ≤ (k : Int)) = true by simp]
    refine WP_dops ?_
    simp only [ES, List.mem_cons, List.not_mem_nil, implies_true, forall_const, WS, List.getElem_cons_zero, List.getElem_cons_succ, Option.isNone_some, Option.isNone_none, List.getD_cons_zero, List.getD_cons_succ, I.at, atL, atO, atP, evp, evs, retV, ↓reduceIte, Nat.reduceEqDiff, reduceCtorEq, t0, t1, t2, t7, t8, addr_add0, Nat.add_zero, hrow'.drew.Eld (show 0 < [mv', iv'].length by simp)]
    refine E_callK (Mul_w.call (w := w'.drew) hm' _ _ fun w4 hl => ?_)
    have hos4 := hl.sl hos
    have hsee := hos.sees hkl Try.prog
    rw [cell_e16] at hsee
    simp only [ES, List.mem_cons, List.not_mem_nil, implies_true, forall_const, WS, List.getElem_cons_zero, List.getElem_cons_succ, Option.isNone_some, Option.isNone_none, List.getD_cons_zero, List.getD_cons_succ, I.at, atL, atO, atP, evp, evs, retV, ↓reduceIte, Nat.reduceEqDiff, reduceCtorEq, t0, t1, t2, t7, t8, hos4.Eix hkl, hos4.Eld hkl, cell_e16, hsee, xor16, wrap_id (show -9223372036854775808 ≤ (k : Int) - 1 by omega) (show (k : Int) - 1 < 9223372036854775808 by omega), toI_int]
    refine ⟨⟨hl.bel (hB.trans ((bel_drew w').mono hB.size)) hB.size, k, rfl, by omega, ?_⟩, by omega⟩
    rw [evl_drop x l hkl, El.add_comm, El.mul_comm x]
end Go.Proofs.Ytbaljbadlfopgaa.Fw

namespace Go.Proofs.Ytbaljbadlfopgaa.Fw
open Go Go.Fw
end Go.Proofs.Ytbaljbadlfopgaa.Fw
