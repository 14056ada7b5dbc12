import Derived.Test.YtcdagkcchfibjaaProg
import Derived.Test.YtcdagkcchfibjaaFwTT
import Derived.Test.YtcdagkcchfibjaaSS04eT
import Derived.Test.YtcdagkcchfibjaaGfQT
set_option linter.all false
set_option linter.unusedVariables false
set_option linter.unusedSimpArgs false
set_option maxRecDepth 100000
set_option maxHeartbeats 1000000
namespace Go.Proofs.Ytcdagkcchfibjaa.Fw
open Go Go.Fw Go.Proofs
attribute [local irreducible] stepI
def c_culletlaw04_both : C := .seq (.ops [⟨0, (some 0), none, .alloc 25 [.pointer none, .pointer none], []⟩]) (.seq (.ops [⟨0, (some 1), none, .call (.c (.func (.func 35) #[] #[])) [], []⟩, ⟨1, (some 2), none, .call (.c (.func (.func 36) #[] #[])) [], []⟩, ⟨2, (some 3), none, .bld [.pointer none, .pointer none] [(0, (1, .t 1)), (1, (1, .t 2))], []⟩, ⟨3, none, none, .stn 2 (.t 0) (.t 3), []⟩]) .ret)
attribute [irreducible] c_culletlaw04_both
theorem run_culletlaw04_both {args : List Value} {w : World} {K : Value → World → Prop} (hn : args.length ≤ 4) (h : WP Try.prog c_culletlaw04_both (endQ [.cn 0 2] K) (initT args) w) : CallV Try.prog 12 args w K :=
  call_of follows Try.func12 (by kernel_rfl) (by kernel_rfl) hn h
def c_culletlaw04_same : C := .seq (.ops [⟨0, (some 4), none, .mov (.c (.bool false)), []⟩]) (.seq (.seq (.ops [⟨0, (some 6), none, .mov (.t 0), []⟩, ⟨1, (some 7), none, .len (.t 6), []⟩, ⟨2, (some 8), none, .mov (.t 1), []⟩, ⟨3, (some 9), none, .len (.t 8), []⟩, ⟨4, (some 10), none, .bin .neq (.t 7) (.t 9), []⟩]) (.ite (.t 10) (.seq (.ops [⟨0, (some 4), none, .mov (.c (.bool false)), []⟩]) .ret) .skip)) (.seq (.seq (.ops [⟨0, (some 5), none, .mov (.c (.int .i64 0)), []⟩]) (.block 0 (.loop (.seq (.seq (.ops [⟨0, (some 11), none, .mov (.t 5), []⟩, ⟨1, (some 12), none, .mov (.t 0), []⟩, ⟨2, (some 13), none, .len (.t 12), []⟩, ⟨3, (some 14), none, .bin .lss (.t 11) (.t 13), []⟩]) (.ite (.t 14) .skip (.exit 0))) (.seq (.block 1 (.seq (.dops [⟨0, (some 17), none, .mov (.t 0), []⟩, ⟨1, (some 18), none, .mov (.t 5), []⟩, ⟨2, (some 19), none, .ixs 1 (.t 17) (.t 18), []⟩, ⟨3, (some 20), none, .ld (.t 19), []⟩, ⟨4, (some 21), none, .mov (.t 1), []⟩, ⟨5, (some 22), none, .mov (.t 5), []⟩, ⟨6, (some 23), none, .ixs 1 (.t 21) (.t 22), []⟩, ⟨7, (some 24), none, .ld (.t 23), []⟩, ⟨8, (some 25), none, .bin .neq (.t 20) (.t 24), []⟩]) (.ite (.t 25) (.seq (.ops [⟨0, (some 4), none, .mov (.c (.bool false)), []⟩]) .ret) .skip))) (.ops [⟨0, (some 15), none, .mov (.t 5), []⟩, ⟨1, (some 16), none, .bin .add (.t 15) (.c (.int .i64 1)), []⟩, ⟨2, (some 5), none, .mov (.t 16), []⟩])))))) (.seq (.ops [⟨0, (some 4), none, .mov (.c (.bool true)), []⟩]) .ret)))
attribute [irreducible] c_culletlaw04_same
theorem run_culletlaw04_same {args : List Value} {w : World} {K : Value → World → Prop} (hn : args.length ≤ 26) (h : WP Try.prog c_culletlaw04_same (endQ [.t 4] K) (initT args) w) : CallV Try.prog 15 args w K :=
  call_of follows Try.func15 (by kernel_rfl) (by kernel_rfl) hn h
def c_culletlaw04_cut : C := .seq (.ops [⟨0, (some 4), none, .mov (.c (.slice none 0 0)), []⟩]) (.seq (.seq (.ops [⟨0, (some 5), none, .mov (.t 0), []⟩]) (.ite (.t 5) (.seq (.ops [⟨0, (some 6), none, .mov (.t 1), []⟩, ⟨1, (some 7), none, .call (.c (.func (.func 38) #[] #[])) [.t 6], []⟩, ⟨2, (some 4), none, .mov (.t 7), []⟩]) .ret) .skip)) (.seq (.ops [⟨0, (some 8), none, .mov (.t 1), []⟩, ⟨1, (some 9), none, .call (.c (.func (.func 40) #[] #[])) [.t 8], []⟩, ⟨2, (some 10), none, .call (.c (.func (.func 41) #[] #[])) [.t 9], []⟩, ⟨3, (some 4), none, .mov (.t 10), []⟩]) .ret))
attribute [irreducible] c_culletlaw04_cut
theorem run_culletlaw04_cut {args : List Value} {w : World} {K : Value → World → Prop} (hn : args.length ≤ 11) (h : WP Try.prog c_culletlaw04_cut (endQ [.t 4] K) (initT args) w) : CallV Try.prog 16 args w K :=
  call_of follows Try.func16 (by kernel_rfl) (by kernel_rfl) hn h
def c_culletlaw04_twin : C := .seq (.ops [⟨0, (some 2), none, .mov (.c (.slice none 0 0)), []⟩]) (.seq (.ops [⟨0, (some 4), none, .mov (.t 0), []⟩, ⟨1, (some 5), none, .len (.t 4), []⟩, ⟨2, (some 6), none, .mks 28 2 [.int .u16 0] (.t 5) (.t 5), []⟩, ⟨3, (some 3), none, .mov (.t 6), []⟩]) (.seq (.ops [⟨0, (some 7), none, .mov (.t 3), []⟩, ⟨1, (some 8), none, .mov (.t 0), []⟩, ⟨2, (some 9), none, .cpy 1 (.t 7) (.t 8), []⟩]) (.seq (.ops [⟨0, (some 10), none, .mov (.t 3), []⟩, ⟨1, (some 2), none, .mov (.t 10), []⟩]) .ret)))
attribute [irreducible] c_culletlaw04_twin
theorem run_culletlaw04_twin {args : List Value} {w : World} {K : Value → World → Prop} (hn : args.length ≤ 11) (h : WP Try.prog c_culletlaw04_twin (endQ [.t 2] K) (initT args) w) : CallV Try.prog 38 args w K :=
  call_of follows Try.func38 (by kernel_rfl) (by kernel_rfl) hn h
def c_culletlaw04_low : C := .seq (.ops [⟨0, (some 2), none, .mov (.c (.slice none 0 0)), []⟩]) (.seq (.ops [⟨0, (some 5), none, .mov (.t 0), []⟩, ⟨1, (some 6), none, .len (.t 5), []⟩, ⟨2, (some 7), none, .mks 5 1 [.int .u8 0] (.t 6) (.t 6), []⟩, ⟨3, (some 3), none, .mov (.t 7), []⟩]) (.seq (.seq (.ops [⟨0, (some 4), none, .mov (.c (.int .i64 0)), []⟩]) (.block 0 (.loop (.seq (.seq (.ops [⟨0, (some 8), none, .mov (.t 4), []⟩, ⟨1, (some 9), none, .mov (.t 0), []⟩, ⟨2, (some 10), none, .len (.t 9), []⟩, ⟨3, (some 11), none, .bin .lss (.t 8) (.t 10), []⟩]) (.ite (.t 11) .skip (.exit 0))) (.seq (.block 1 (.ops [⟨0, (some 14), none, .mov (.t 3), []⟩, ⟨1, (some 15), none, .mov (.t 4), []⟩, ⟨2, (some 16), none, .mov (.t 0), []⟩, ⟨3, (some 17), none, .mov (.t 4), []⟩, ⟨4, (some 18), none, .ixs 1 (.t 16) (.t 17), []⟩, ⟨5, (some 19), none, .ld (.t 18), []⟩, ⟨6, (some 20), none, .cnv .u8 (.t 19), []⟩, ⟨7, (some 21), none, .ixs 1 (.t 14) (.t 15), []⟩, ⟨8, none, none, .st (.t 21) (.t 20), []⟩])) (.ops [⟨0, (some 12), none, .mov (.t 4), []⟩, ⟨1, (some 13), none, .bin .add (.t 12) (.c (.int .i64 1)), []⟩, ⟨2, (some 4), none, .mov (.t 13), []⟩])))))) (.seq (.ops [⟨0, (some 22), none, .mov (.t 3), []⟩, ⟨1, (some 2), none, .mov (.t 22), []⟩]) .ret)))
attribute [irreducible] c_culletlaw04_low
theorem run_culletlaw04_low {args : List Value} {w : World} {K : Value → World → Prop} (hn : args.length ≤ 23) (h : WP Try.prog c_culletlaw04_low (endQ [.t 2] K) (initT args) w) : CallV Try.prog 40 args w K :=
  call_of follows Try.func40 (by kernel_rfl) (by kernel_rfl) hn h
def c_culletlaw04_up : C := .seq (.ops [⟨0, (some 2), none, .mov (.c (.slice none 0 0)), []⟩]) (.seq (.ops [⟨0, (some 5), none, .mov (.t 0), []⟩, ⟨1, (some 6), none, .len (.t 5), []⟩, ⟨2, (some 7), none, .mks 28 2 [.int .u16 0] (.t 6) (.t 6), []⟩, ⟨3, (some 3), none, .mov (.t 7), []⟩]) (.seq (.seq (.ops [⟨0, (some 4), none, .mov (.c (.int .i64 0)), []⟩]) (.block 0 (.loop (.seq (.seq (.ops [⟨0, (some 8), none, .mov (.t 4), []⟩, ⟨1, (some 9), none, .mov (.t 0), []⟩, ⟨2, (some 10), none, .len (.t 9), []⟩, ⟨3, (some 11), none, .bin .lss (.t 8) (.t 10), []⟩]) (.ite (.t 11) .skip (.exit 0))) (.seq (.block 1 (.ops [⟨0, (some 14), none, .mov (.t 3), []⟩, ⟨1, (some 15), none, .mov (.t 4), []⟩, ⟨2, (some 16), none, .mov (.t 0), []⟩, ⟨3, (some 17), none, .mov (.t 4), []⟩, ⟨4, (some 18), none, .ixs 1 (.t 16) (.t 17), []⟩, ⟨5, (some 19), none, .ld (.t 18), []⟩, ⟨6, (some 20), none, .cnv .u16 (.t 19), []⟩, ⟨7, (some 21), none, .ixs 1 (.t 14) (.t 15), []⟩, ⟨8, none, none, .st (.t 21) (.t 20), []⟩])) (.ops [⟨0, (some 12), none, .mov (.t 4), []⟩, ⟨1, (some 13), none, .bin .add (.t 12) (.c (.int .i64 1)), []⟩, ⟨2, (some 4), none, .mov (.t 13), []⟩])))))) (.seq (.ops [⟨0, (some 22), none, .mov (.t 3), []⟩, ⟨1, (some 2), none, .mov (.t 22), []⟩]) .ret)))
attribute [irreducible] c_culletlaw04_up
theorem run_culletlaw04_up {args : List Value} {w : World} {K : Value → World → Prop} (hn : args.length ≤ 23) (h : WP Try.prog c_culletlaw04_up (endQ [.t 2] K) (initT args) w) : CallV Try.prog 41 args w K :=
  call_of follows Try.func41 (by kernel_rfl) (by kernel_rfl) hn h
def c_culletlaw04_times : C := .seq (.ops [⟨0, (some 6), none, .mov (.c (.int .u16 0)), []⟩]) (.seq (.seq (.ops [⟨0, (some 7), none, .mov (.t 0), []⟩]) (.ite (.t 7) (.seq (.ops [⟨0, (some 8), none, .mov (.t 1), []⟩, ⟨1, (some 9), none, .mov (.t 2), []⟩, ⟨2, (some 10), none, .call (.c (.func (.func 76) #[] #[])) [.t 8, .t 9], []⟩, ⟨3, (some 6), none, .mov (.t 10), []⟩]) .ret) .skip)) (.seq (.ops [⟨0, (some 11), none, .mov (.t 1), []⟩, ⟨1, (some 12), none, .cnv .u8 (.t 11), []⟩, ⟨2, (some 13), none, .mov (.t 2), []⟩, ⟨3, (some 14), none, .cnv .u8 (.t 13), []⟩, ⟨4, (some 15), none, .call (.c (.func (.func 86) #[] #[])) [.t 12, .t 14], []⟩, ⟨5, (some 16), none, .cnv .u16 (.t 15), []⟩, ⟨6, (some 6), none, .mov (.t 16), []⟩]) .ret))
attribute [irreducible] c_culletlaw04_times
theorem run_culletlaw04_times {args : List Value} {w : World} {K : Value → World → Prop} (hn : args.length ≤ 17) (h : WP Try.prog c_culletlaw04_times (endQ [.t 6] K) (initT args) w) : CallV Try.prog 46 args w K :=
  call_of follows Try.func46 (by kernel_rfl) (by kernel_rfl) hn h
end Go.Proofs.Ytcdagkcchfibjaa.Fw
namespace Go.Proofs.Ytcdagkcchfibjaa.Fw
open Go Go.Fw
def em16 (x : El 16) : El 16 := x
def lo16 (x : El 16) : El 16 := x
def em8 (x : El 8) : El 16 := ⟨x.v.setWidth 16⟩
def lo8 (x : El 16) : El 8 := ⟨x.v.setWidth 8⟩
theorem em8_nat (x : El 8) : (em8 x).v.toNat = x.v.toNat := by
  have := x.v.isLt
  show (x.v.setWidth 16).toNat = _
  rw [BitVec.toNat_setWidth]; omega
theorem lo8_nat (x : El 16) : (lo8 x).v.toNat = x.v.toNat % 256 := by
  show (x.v.setWidth 8).toNat = _
  rw [BitVec.toNat_setWidth]
theorem em16_nat (x : El 16) : (em16 x).v.toNat = x.v.toNat := rfl
theorem lo8_em8 (x : El 8) : lo8 (em8 x) = x := by
  apply El.ext; apply BitVec.eq_of_toNat_eq
  rw [lo8_nat, em8_nat]; have := x.v.isLt; omega
theorem em8_inj {x y : El 8} (h : em8 x = em8 y) : x = y := by rw [← lo8_em8 x, h, lo8_em8]
theorem em16_inj {x y : El 16} (h : em16 x = em16 y) : x = y := h
theorem em16_map (l : List (El 16)) : l.map em16 = l := by
  show l.map (fun x => x) = l
  exact List.map_id' l
theorem lo16_map (l : List (El 16)) : l.map lo16 = l := em16_map l
theorem lo8_map_em8 (l : List (El 8)) : (l.map em8).map lo8 = l := by rw [List.map_map]; simp [Function.comp_def, lo8_em8]
theorem lo16_map_em16 (l : List (El 16)) : (l.map em16).map lo16 = l := by rw [em16_map, lo16_map]
theorem culletlaw04_twin_spec (w : World) (s : Value) (l : List (El 16)) (h : Sl w s l) (hb : l.length ≤ 70368744175616) :
    CallV Try.prog 38 [s] w fun v w' => Ow w.heap.size w' v l ∧ RowKit.Below w.heap.size w w' := by
  refine run_culletlaw04_twin (by simp) ?_
  simp only [c_culletlaw04_twin, WS, List.getElem_cons_zero, List.getElem_cons_succ, Option.isNone_some, Option.isNone_none, List.getD_cons_zero, List.getD_cons_succ, I.at, atL, atO, atP, evp, evs, retV, ↓reduceIte, Nat.reduceEqDiff, reduceCtorEq, h.Xlen]
  refine X_mks (x := (0 : El 16)) ?_ ?_ fun p w1 ho hB => ?_
  · simp only [maxBytes]; omega
  · omega
  simp only [WS, List.getElem_cons_zero, List.getElem_cons_succ, Option.isNone_some, Option.isNone_none, List.getD_cons_zero, List.getD_cons_succ, I.at, atL, atO, atP, evp, evs, retV, ↓reduceIte, Nat.reduceEqDiff, reduceCtorEq]
  refine Ow.Xcpy ho (h.up hB) fun w2 ho2 hg => ?_
  simp only [WS, List.getElem_cons_zero, List.getElem_cons_succ, Option.isNone_some, Option.isNone_none, List.getD_cons_zero, List.getD_cons_succ, I.at, atL, atO, atP, evp, evs, retV, ↓reduceIte, Nat.reduceEqDiff, reduceCtorEq]
  have e : l.take (List.replicate l.length (0 : El 16)).length ++ (List.replicate l.length (0 : El 16)).drop l.length = l := by simp
  rw [e] at ho2
  exact ⟨ho2, hB.grown hg hB.size fun b hb => (ho.blk b hb).1⟩
theorem culletlaw04_low_spec (w : World) (s : Value) (l : List (El 16)) (h : Sl w s l) (hb : l.length ≤ 70368744175616) :
    CallV Try.prog 40 [s] w fun v w' => Ow w.heap.size w' v (l.map lo8) ∧ RowKit.Below w.heap.size w w' := by
  refine run_culletlaw04_low (by simp) ?_
  simp only [c_culletlaw04_low, WS, List.getElem_cons_zero, List.getElem_cons_succ, Option.isNone_some, Option.isNone_none, List.getD_cons_zero, List.getD_cons_succ, I.at, atL, atO, atP, evp, evs, retV, ↓reduceIte, Nat.reduceEqDiff, reduceCtorEq, h.Xlen]
  refine X_mks (x := (0 : El 8)) ?_ ?_ fun p w1 ho hB => ?_
  · simp only [maxBytes]; omega
  · omega
  simp only [WS, List.getElem_cons_zero, List.getElem_cons_succ, Option.isNone_some, Option.isNone_none, List.getD_cons_zero, List.getD_cons_succ, I.at, atL, atO, atP, evp, evs, retV, ↓reduceIte, Nat.reduceEqDiff, reduceCtorEq]
  refine loop_of (fun t w' => t 0 = s ∧ t 3 = p ∧ RowKit.Below w.heap.size w w' ∧ ∃ (i : Nat) (ls : List (El 8)), t 4 = .int .i64 (i : Int) ∧ i ≤ l.length ∧ Ow w.heap.size w' p ls ∧ ls.length = l.length ∧ ls.take i = (l.take i).map lo8)
    (fun t _ => l.length - (toI (t 4)).toNat) ⟨rfl, rfl, hB, 0, _, rfl, by omega, ho, by simp, by simp⟩ ?_
  clear ho hB
  rintro t w' ⟨t0, t3, hB, i, ls, t4, hi, ho, hll, hc⟩
  by_cases hlt : i < l.length
  · have hos := h.up hB
    have wc : IntKind.u8.wrap (l[i].v.toNat : Int) = ((lo8 l[i]).v.toNat : Int) := by rw [wrap_u8m, lo8_nat]
    simp only [WS, List.getElem_cons_zero, List.getElem_cons_succ, Option.isNone_some, Option.isNone_none, List.getD_cons_zero, List.getD_cons_succ, I.at, atL, atO, atP, evp, evs, retV, ↓reduceIte, Nat.reduceEqDiff, reduceCtorEq, t0, t3, t4, hos.Xlen, show decide ((i : Int) < (l.length : Int)) = true from decide_eq_true (by omega), hos.Xix hlt, hos.Xld hlt, cell_e16, wc, ho.sl.Xix (show i < ls.length by omega)]
    refine Ow.Xst ho (show i < ls.length by omega) (lo8 l[i]) fun w3 ho3 hg3 => ?_
    simp only [WS, List.getElem_cons_zero, List.getElem_cons_succ, Option.isNone_some, Option.isNone_none, List.getD_cons_zero, List.getD_cons_succ, I.at, atL, atO, atP, evp, evs, retV, ↓reduceIte, Nat.reduceEqDiff, reduceCtorEq, t0, t3, t4, wrap_id (show -9223372036854775808 ≤ (i : Int) + 1 by omega) (show (i : Int) + 1 < 9223372036854775808 by omega), toI_int]
    refine ⟨⟨hB.grown hg3 hB.size fun b hb => (ho.blk b hb).1, i + 1, _, rfl, by omega, ho3, by simp [hll], ?_⟩, by omega⟩
    rw [List.take_add_one, List.getElem?_set_self (by omega), List.take_set_of_le (Nat.le_refl _), hc, List.take_add_one, List.getElem?_eq_getElem hlt]
    simp only [Option.toList_some, List.map_append, List.map_cons, List.map_nil]
  · simp only [WS, List.getElem_cons_zero, List.getElem_cons_succ, Option.isNone_some, Option.isNone_none, List.getD_cons_zero, List.getD_cons_succ, I.at, atL, atO, atP, evp, evs, retV, ↓reduceIte, Nat.reduceEqDiff, reduceCtorEq, t0, t3, t4, (h.up hB).Xlen, show decide ((i : Int) < (l.length : Int)) = false from decide_eq_false (by omega)]
    rw [List.take_of_length_le (by omega), List.take_of_length_le (by omega)] at hc
    rw [hc] at ho
    exact ⟨ho, hB⟩
theorem culletlaw04_up_spec (w : World) (s : Value) (l : List (El 8)) (h : Sl w s l) (hb : l.length ≤ 70368744175616) :
    CallV Try.prog 41 [s] w fun v w' => Ow w.heap.size w' v (l.map em8) ∧ RowKit.Below w.heap.size w w' := by
  refine run_culletlaw04_up (by simp) ?_
  simp only [c_culletlaw04_up, WS, List.getElem_cons_zero, List.getElem_cons_succ, Option.isNone_some, Option.isNone_none, List.getD_cons_zero, List.getD_cons_succ, I.at, atL, atO, atP, evp, evs, retV, ↓reduceIte, Nat.reduceEqDiff, reduceCtorEq, h.Xlen]
  refine X_mks (x := (0 : El 16)) ?_ ?_ fun p w1 ho hB => ?_
  · simp only [maxBytes]; omega
  · omega
  simp only [WS, List.getElem_cons_zero, List.getElem_cons_succ, Option.isNone_some, Option.isNone_none, List.getD_cons_zero, List.getD_cons_succ, I.at, atL, atO, atP, evp, evs, retV, ↓reduceIte, Nat.reduceEqDiff, reduceCtorEq]
  refine loop_of (fun t w' => t 0 = s ∧ t 3 = p ∧ RowKit.Below w.heap.size w w' ∧ ∃ (i : Nat) (ls : List (El 16)), t 4 = .int .i64 (i : Int) ∧ i ≤ l.length ∧ Ow w.heap.size w' p ls ∧ ls.length = l.length ∧ ls.take i = (l.take i).map em8)
    (fun t _ => l.length - (toI (t 4)).toNat) ⟨rfl, rfl, hB, 0, _, rfl, by omega, ho, by simp, by simp⟩ ?_
  clear ho hB
  rintro t w' ⟨t0, t3, hB, i, ls, t4, hi, ho, hll, hc⟩
  by_cases hlt : i < l.length
  · have hos := h.up hB
    have wc : IntKind.u16.wrap (l[i].v.toNat : Int) = ((em8 l[i]).v.toNat : Int) := by
      have := l[i].v.isLt
      rw [wrap_u16 _ (by omega), em8_nat]
    simp only [WS, List.getElem_cons_zero, List.getElem_cons_succ, Option.isNone_some, Option.isNone_none, List.getD_cons_zero, List.getD_cons_succ, I.at, atL, atO, atP, evp, evs, retV, ↓reduceIte, Nat.reduceEqDiff, reduceCtorEq, t0, t3, t4, hos.Xlen, show decide ((i : Int) < (l.length : Int)) = true from decide_eq_true (by omega), hos.Xix hlt, hos.Xld hlt, cell_e8, wc, ho.sl.Xix (show i < ls.length by omega)]
    refine Ow.Xst ho (show i < ls.length by omega) (em8 l[i]) fun w3 ho3 hg3 => ?_
    simp only [WS, List.getElem_cons_zero, List.getElem_cons_succ, Option.isNone_some, Option.isNone_none, List.getD_cons_zero, List.getD_cons_succ, I.at, atL, atO, atP, evp, evs, retV, ↓reduceIte, Nat.reduceEqDiff, reduceCtorEq, t0, t3, t4, wrap_id (show -9223372036854775808 ≤ (i : Int) + 1 by omega) (show (i : Int) + 1 < 9223372036854775808 by omega), toI_int]
    refine ⟨⟨hB.grown hg3 hB.size fun b hb => (ho.blk b hb).1, i + 1, _, rfl, by omega, ho3, by simp [hll], ?_⟩, by omega⟩
    rw [List.take_add_one, List.getElem?_set_self (by omega), List.take_set_of_le (Nat.le_refl _), hc, List.take_add_one, List.getElem?_eq_getElem hlt]
    simp only [Option.toList_some, List.map_append, List.map_cons, List.map_nil]
  · simp only [WS, List.getElem_cons_zero, List.getElem_cons_succ, Option.isNone_some, Option.isNone_none, List.getD_cons_zero, List.getD_cons_succ, I.at, atL, atO, atP, evp, evs, retV, ↓reduceIte, Nat.reduceEqDiff, reduceCtorEq, t0, t3, t4, (h.up hB).Xlen, show decide ((i : Int) < (l.length : Int)) = false from decide_eq_false (by omega)]
    rw [List.take_of_length_le (by omega), List.take_of_length_le (by omega)] at hc
    rw [hc] at ho
    exact ⟨ho, hB⟩
/-- As the field has them. -/
theorem culletlaw04_cut_w_spec (w : World) (s : Value) (l : List (El 16)) (h : Sl w s l) (hb : l.length ≤ 70368744175616) :
    CallV Try.prog 16 [.bool true, s] w fun v w' => Ow w.heap.size w' v ((l.map lo16).map em16) ∧ RowKit.Below w.heap.size w w' := by
  refine run_culletlaw04_cut (by simp) ?_
  simp only [c_culletlaw04_cut, WS, List.getElem_cons_zero, List.getElem_cons_succ, Option.isNone_some, Option.isNone_none, List.getD_cons_zero, List.getD_cons_succ, I.at, atL, atO, atP, evp, evs, retV, ↓reduceIte, Nat.reduceEqDiff, reduceCtorEq]
  refine X_call0 ((culletlaw04_twin_spec w s l h hb).mono ?_)
  rintro v w' ⟨h1, h2⟩
  simp only [WS, List.getElem_cons_zero, List.getElem_cons_succ, Option.isNone_some, Option.isNone_none, List.getD_cons_zero, List.getD_cons_succ, I.at, atL, atO, atP, evp, evs, retV, ↓reduceIte, Nat.reduceEqDiff, reduceCtorEq, lo16_map, em16_map]
  exact ⟨h1, h2⟩
theorem culletlaw04_cut_b_spec (w : World) (s : Value) (l : List (El 16)) (h : Sl w s l) (hb : l.length ≤ 70368744175616) :
    CallV Try.prog 16 [.bool false, s] w fun v w' => Ow w.heap.size w' v ((l.map lo8).map em8) ∧ RowKit.Below w.heap.size w w' := by
  refine run_culletlaw04_cut (by simp) ?_
  simp only [c_culletlaw04_cut, WS, List.getElem_cons_zero, List.getElem_cons_succ, Option.isNone_some, Option.isNone_none, List.getD_cons_zero, List.getD_cons_succ, I.at, atL, atO, atP, evp, evs, retV, ↓reduceIte, Nat.reduceEqDiff, reduceCtorEq]
  refine X_call0 ((culletlaw04_low_spec w s l h hb).mono ?_)
  rintro v w' ⟨h1, h2⟩
  simp only [WS, List.getElem_cons_zero, List.getElem_cons_succ, Option.isNone_some, Option.isNone_none, List.getD_cons_zero, List.getD_cons_succ, I.at, atL, atO, atP, evp, evs, retV, ↓reduceIte, Nat.reduceEqDiff, reduceCtorEq]
  refine X_call0 ((culletlaw04_up_spec w' v _ h1.sl (by rw [List.length_map]; exact hb)).mono ?_)
  rintro v w2 ⟨h3, h4⟩
  simp only [WS, List.getElem_cons_zero, List.getElem_cons_succ, Option.isNone_some, Option.isNone_none, List.getD_cons_zero, List.getD_cons_succ, I.at, atL, atO, atP, evp, evs, retV, ↓reduceIte, Nat.reduceEqDiff, reduceCtorEq]
  exact ⟨h3.mono h2.size, h2.trans (h4.mono h2.size)⟩
theorem culletlaw04_same_spec (w : World) (s1 s2 : Value) (l1 l2 : List (El 16)) (h1 : Sl w s1 l1) (h2 : Sl w s2 l2) (hb : l1.length ≤ 140737488355328) (hb2 : l2.length ≤ 140737488355328) :
    CallV Try.prog 15 [s1, s2] w fun v w' => v = .bool (decide (l1 = l2)) ∧ Like w w' := by
  refine run_culletlaw04_same (by simp) ?_
  simp only [c_culletlaw04_same, WS, List.getElem_cons_zero, List.getElem_cons_succ, Option.isNone_some, Option.isNone_none, List.getD_cons_zero, List.getD_cons_succ, I.at, atL, atO, atP, evp, evs, retV, ↓reduceIte, Nat.reduceEqDiff, reduceCtorEq, h1.Xlen, h2.Xlen]
  by_cases hl : l1.length = l2.length
  · simp only [WS, List.getElem_cons_zero, List.getElem_cons_succ, Option.isNone_some, Option.isNone_none, List.getD_cons_zero, List.getD_cons_succ, I.at, atL, atO, atP, evp, evs, retV, ↓reduceIte, Nat.reduceEqDiff, reduceCtorEq, show decide ((l1.length : Int) = (l2.length : Int)) = true from decide_eq_true (by omega)]
    refine loop_of (fun t w' => Like w w' ∧ t 0 = s1 ∧ t 1 = s2 ∧ ∃ i : Nat, t 5 = .int .i64 (i : Int) ∧ i ≤ l1.length ∧ l1.take i = l2.take i) (fun t _ => l1.length - (toI (t 5)).toNat) ⟨Like.refl w, rfl, rfl, 0, rfl, by omega, by simp⟩ ?_
    rintro t w' ⟨hk, t0, t1, i, t5, hi, he⟩
    have g1 := hk.sl h1
    have g2 := hk.sl h2
    by_cases hlt : i < l1.length
    · have hlt2 : i < l2.length := by omega
      simp only [WS, List.getElem_cons_zero, List.getElem_cons_succ, Option.isNone_some, Option.isNone_none, List.getD_cons_zero, List.getD_cons_succ, I.at, atL, atO, atP, evp, evs, retV, ↓reduceIte, Nat.reduceEqDiff, reduceCtorEq, t0, t1, t5, g1.Xlen, show decide ((i : Int) < (l1.length : Int)) = true from decide_eq_true (by omega)]
      refine WP_dops ?_
      simp only [ES, List.mem_cons, List.not_mem_nil, implies_true, forall_const, WS, List.getElem_cons_zero, List.getElem_cons_succ, Option.isNone_some, Option.isNone_none, List.getD_cons_zero, List.getD_cons_succ, I.at, atL, atO, atP, evp, evs, retV, ↓reduceIte, Nat.reduceEqDiff, reduceCtorEq, t0, t1, t5, g1.drew.Eix hlt, g1.drew.Eld hlt, g2.drew.Eix hlt2, g2.drew.Eld hlt2, cell_e16, el_eq]
      by_cases hx : l1[i] = l2[i]
      · simp only [WS, List.getElem_cons_zero, List.getElem_cons_succ, Option.isNone_some, Option.isNone_none, List.getD_cons_zero, List.getD_cons_succ, I.at, atL, atO, atP, evp, evs, retV, ↓reduceIte, Nat.reduceEqDiff, reduceCtorEq, t0, t1, t5, decide_eq_true hx, wrap_id (show -9223372036854775808 ≤ (i : Int) + 1 by omega) (show (i : Int) + 1 < 9223372036854775808 by omega), toI_int]
        refine ⟨⟨hk.trans (Like.drew _), i + 1, rfl, by omega, ?_⟩, by omega⟩
        rw [List.take_add_one, List.take_add_one, he, List.getElem?_eq_getElem hlt, List.getElem?_eq_getElem hlt2, hx]
      · have : ¬ l1 = l2 := fun e => hx (by subst e; rfl)
        simp only [WS, List.getElem_cons_zero, List.getElem_cons_succ, Option.isNone_some, Option.isNone_none, List.getD_cons_zero, List.getD_cons_succ, I.at, atL, atO, atP, evp, evs, retV, ↓reduceIte, Nat.reduceEqDiff, reduceCtorEq, t0, t1, t5, decide_eq_false hx, decide_eq_false this]
        exact hk.trans (Like.drew _)
    · rw [List.take_of_length_le (by omega), List.take_of_length_le (by omega)] at he
      simp only [WS, List.getElem_cons_zero, List.getElem_cons_succ, Option.isNone_some, Option.isNone_none, List.getD_cons_zero, List.getD_cons_succ, I.at, atL, atO, atP, evp, evs, retV, ↓reduceIte, Nat.reduceEqDiff, reduceCtorEq, t0, t1, t5, g1.Xlen, show decide ((i : Int) < (l1.length : Int)) = false from decide_eq_false (by omega), decide_eq_true he]
      exact hk
  · have : ¬ l1 = l2 := fun e => hl (by rw [e])
    simp only [WS, List.getElem_cons_zero, List.getElem_cons_succ, Option.isNone_some, Option.isNone_none, List.getD_cons_zero, List.getD_cons_succ, I.at, atL, atO, atP, evp, evs, retV, ↓reduceIte, Nat.reduceEqDiff, reduceCtorEq, show decide ((l1.length : Int) = (l2.length : Int)) = false from decide_eq_false (by omega), decide_eq_false this]
    exact Like.refl w
theorem culletlaw04_times_w_spec (w : World) (x y : El 16) : CallV Try.prog 46 [.bool true, .int .u16 ((em16 x).v.toNat : Int), .int .u16 ((em16 y).v.toNat : Int)] w fun v w' => v = .int .u16 ((em16 (x * y)).v.toNat : Int) ∧ w' = w := by
  refine run_culletlaw04_times (by simp) ?_
  simp only [c_culletlaw04_times, WS, List.getElem_cons_zero, List.getElem_cons_succ, Option.isNone_some, Option.isNone_none, List.getD_cons_zero, List.getD_cons_succ, I.at, atL, atO, atP, evp, evs, retV, ↓reduceIte, Nat.reduceEqDiff, reduceCtorEq]
  refine X_call0 ((gf16_Mul_spec w x y).mono ?_)
  rintro v w' ⟨rfl, rfl⟩
  simp only [WS, List.getElem_cons_zero, List.getElem_cons_succ, Option.isNone_some, Option.isNone_none, List.getD_cons_zero, List.getD_cons_succ, I.at, atL, atO, atP, evp, evs, retV, ↓reduceIte, Nat.reduceEqDiff, reduceCtorEq, em16]
theorem culletlaw04_times_b_spec (w : World) (x y : El 8) : CallV Try.prog 46 [.bool false, .int .u16 ((em8 x).v.toNat : Int), .int .u16 ((em8 y).v.toNat : Int)] w fun v w' => v = .int .u16 ((em8 (x * y)).v.toNat : Int) ∧ w' = w := by
  have hx := x.v.isLt
  have hy := y.v.isLt
  have hxy := (x * y).v.isLt
  refine run_culletlaw04_times (by simp) ?_
  simp only [c_culletlaw04_times, WS, List.getElem_cons_zero, List.getElem_cons_succ, Option.isNone_some, Option.isNone_none, List.getD_cons_zero, List.getD_cons_succ, I.at, atL, atO, atP, evp, evs, retV, ↓reduceIte, Nat.reduceEqDiff, reduceCtorEq, em8_nat, wrap_u8 _ hx, wrap_u8 _ hy]
  refine X_call0 ((gf8_Mul_spec w x y).mono ?_)
  rintro v w' ⟨rfl, rfl⟩
  simp only [WS, List.getElem_cons_zero, List.getElem_cons_succ, Option.isNone_some, Option.isNone_none, List.getD_cons_zero, List.getD_cons_succ, I.at, atL, atO, atP, evp, evs, retV, ↓reduceIte, Nat.reduceEqDiff, reduceCtorEq, wrap_u16 _ (show (x * y).v.toNat < 65536 by omega)]
theorem culletlaw04_both_spec (w : World) : CallV Try.prog 12 [] w fun v w' => ∃ rb rw, v = .agg #[rb, rw] ∧ Ring_b w' rb ∧ Ring_w w' rw ∧ RowKit.Below w.heap.size w w' := by
  refine run_culletlaw04_both (by simp) ?_
  simp only [c_culletlaw04_both, WS, List.getElem_cons_zero, List.getElem_cons_succ, Option.isNone_some, Option.isNone_none, List.getD_cons_zero, List.getD_cons_succ, I.at, atL, atO, atP, evp, evs, retV, ↓reduceIte, Nat.reduceEqDiff, reduceCtorEq]
  refine X_alloc fun b w1 hr hb hB1 => ?_
  simp only [WS, List.getElem_cons_zero, List.getElem_cons_succ, Option.isNone_some, Option.isNone_none, List.getD_cons_zero, List.getD_cons_succ, I.at, atL, atO, atP, evp, evs, retV, ↓reduceIte, Nat.reduceEqDiff, reduceCtorEq]
  refine X_call0 ((polys_Over8_spec w1).mono ?_)
  rintro rb w2 ⟨h8, hB2, hs8⟩
  simp only [WS, List.getElem_cons_zero, List.getElem_cons_succ, Option.isNone_some, Option.isNone_none, List.getD_cons_zero, List.getD_cons_succ, I.at, atL, atO, atP, evp, evs, retV, ↓reduceIte, Nat.reduceEqDiff, reduceCtorEq]
  refine X_call0 ((polys_Over16_spec w2).mono ?_)
  rintro rw w3 ⟨h16, hB3, hs16⟩
  have hf : fillL [.pointer none, .pointer none] [(0, 1, rb), (1, 1, rw)] = some [rb, rw] := by
    obtain ⟨_, _, _, rfl, _⟩ := h8
    obtain ⟨_, _, _, rfl, _⟩ := h16
    rfl
  have s8 : scal rb = true := by obtain ⟨_, _, _, rfl, _⟩ := h8; rfl
  have s16 : scal rw = true := by obtain ⟨_, _, _, rfl, _⟩ := h16; rfl
  simp only [WS, List.getElem_cons_zero, List.getElem_cons_succ, Option.isNone_some, Option.isNone_none, List.getD_cons_zero, List.getD_cons_succ, I.at, atL, atO, atP, evp, evs, retV, ↓reduceIte, Nat.reduceEqDiff, reduceCtorEq, X_bld, hf]
  have hr3 := (hr.up hB2).up hB3
  refine Row.Xstn (vs := [rb, rw]) hr3 rfl (by simp [s8, s16]) (by simp) fun w4 hr4 hg4 => ?_
  simp only [WS, List.getElem_cons_zero, List.getElem_cons_succ, Option.isNone_some, Option.isNone_none, List.getD_cons_zero, List.getD_cons_succ, I.at, atL, atO, atP, evp, evs, retV, ↓reduceIte, Nat.reduceEqDiff, reduceCtorEq]
  rw [hr4.ldn (n := 2) rfl]
  have hB13 : RowKit.Below w1.heap.size w1 w3 := hB2.trans (hB3.mono hB2.size)
  have hB : RowKit.Below w.heap.size w w3 := hB1.trans (hB13.mono hB1.size)
  have hbl : b < w1.heap.size := row_lt hr
  have hb2 : b < w2.heap.size := Nat.lt_of_lt_of_le hbl hB2.size
  refine ⟨rb, rw, rfl, hs8 w4 fun k h1 h2 => ?_, hs16 w4 fun k h1 h2 => ?_, hB.grown hg4 hB.size fun k hk => by cases hk; exact hb⟩
  · exact (hg4.block k (Nat.lt_of_lt_of_le h2 hB3.size) (fun e => by cases e; omega)).trans (hB3.block k h2)
  · exact hg4.block k h2 (fun e => by cases e; omega)
end Go.Proofs.Ytcdagkcchfibjaa.Fw
