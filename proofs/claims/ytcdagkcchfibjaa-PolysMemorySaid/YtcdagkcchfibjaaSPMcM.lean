import Derived.Test.YtcdagkcchfibjaaProg
import Derived.Test.YtcdagkcchfibjaaFwTM
import Derived.Test.YtcdagkcchfibjaaSPMbM
set_option linter.all false
set_option linter.unusedVariables false
set_option linter.unusedSimpArgs false
set_option maxRecDepth 100000
set_option maxHeartbeats 1000000
namespace Go.Proofs.Ytcdagkcchfibjaa.Fw
open Go Go.Fw Go.Proofs
attribute [local irreducible] stepI
def c_culletlaw04_roomy16 : C := .seq (.ops [⟨0, (some 2), none, .mov (.c (.slice none 0 0)), []⟩, ⟨1, (some 3), none, .mov (.c (.slice none 0 0)), []⟩]) (.seq (.ops [⟨0, (some 5), none, .bsl 28 0 [.int .u16 0] [], []⟩, ⟨1, (some 6), none, .mov (.t 0), []⟩, ⟨2, (some 7), none, .app 28 2 [.int .u16 0] (.t 5) (.t 6), []⟩, ⟨3, (some 8), none, .bsl 28 8 [.int .u16 0] [(0, (1, .c (.int .u16 91))), (1, (1, .c (.int .u16 92))), (2, (1, .c (.int .u16 93))), (3, (1, .c (.int .u16 94))), (4, (1, .c (.int .u16 95))), (5, (1, .c (.int .u16 96))), (6, (1, .c (.int .u16 97))), (7, (1, .c (.int .u16 98)))], []⟩, ⟨4, (some 9), none, .app 28 2 [.int .u16 0] (.t 7) (.t 8), []⟩, ⟨5, (some 4), none, .mov (.t 9), []⟩]) (.seq (.dops [⟨0, (some 10), none, .mov (.t 4), []⟩, ⟨1, (some 11), none, .mov (.t 4), []⟩, ⟨2, (some 12), none, .mov (.t 0), []⟩, ⟨3, (some 13), none, .len (.t 12), []⟩, ⟨4, (some 14), none, .slc 1 (.t 11) none (some (.t 13)) none, []⟩, ⟨5, (some 2), none, .mov (.t 10), []⟩, ⟨6, (some 3), none, .mov (.t 14), []⟩]) .ret))
attribute [irreducible] c_culletlaw04_roomy16
theorem run_culletlaw04_roomy16 {args : List Value} {w : World} {K : Value → World → Prop} (hn : args.length ≤ 15) (h : WP Try.prog c_culletlaw04_roomy16 (endQ [.t 2, .t 3] K) (initT args) w) : CallV Try.prog 63 args w K :=
  call_of follows Try.func63 (by kernel_rfl) (by kernel_rfl) hn h
def c_culletlaw04_copies16 : C := .seq (.ops [⟨0, (some 2), none, .mov (.c (.slice none 0 0)), []⟩]) (.seq (.ops [⟨0, (some 5), none, .mov (.t 0), []⟩, ⟨1, (some 6), none, .len (.t 5), []⟩, ⟨2, (some 7), none, .mks 27 24 [.slice none 0 0] (.t 6) (.t 6), []⟩, ⟨3, (some 3), none, .mov (.t 7), []⟩]) (.seq (.seq (.ops [⟨0, (some 4), none, .mov (.c (.int .i64 0)), []⟩]) (.block 0 (.loop (.seq (.seq (.ops [⟨0, (some 8), none, .mov (.t 4), []⟩, ⟨1, (some 9), none, .mov (.t 0), []⟩, ⟨2, (some 10), none, .len (.t 9), []⟩, ⟨3, (some 11), none, .bin .lss (.t 8) (.t 10), []⟩]) (.ite (.t 11) .skip (.exit 0))) (.seq (.block 1 (.ops [⟨0, (some 14), none, .mov (.t 3), []⟩, ⟨1, (some 15), none, .mov (.t 4), []⟩, ⟨2, (some 16), none, .bsl 28 0 [.int .u16 0] [], []⟩, ⟨3, (some 17), none, .mov (.t 0), []⟩, ⟨4, (some 18), none, .mov (.t 4), []⟩, ⟨5, (some 19), none, .ixs 1 (.t 17) (.t 18), []⟩, ⟨6, (some 20), none, .ld (.t 19), []⟩, ⟨7, (some 21), none, .app 28 2 [.int .u16 0] (.t 16) (.t 20), []⟩, ⟨8, (some 22), none, .ixs 1 (.t 14) (.t 15), []⟩, ⟨9, none, none, .st (.t 22) (.t 21), []⟩])) (.ops [⟨0, (some 12), none, .mov (.t 4), []⟩, ⟨1, (some 13), none, .bin .add (.t 12) (.c (.int .i64 1)), []⟩, ⟨2, (some 4), none, .mov (.t 13), []⟩])))))) (.seq (.ops [⟨0, (some 23), none, .mov (.t 3), []⟩, ⟨1, (some 2), none, .mov (.t 23), []⟩]) .ret)))
attribute [irreducible] c_culletlaw04_copies16
theorem run_culletlaw04_copies16 {args : List Value} {w : World} {K : Value → World → Prop} (hn : args.length ≤ 24) (h : WP Try.prog c_culletlaw04_copies16 (endQ [.t 2] K) (initT args) w) : CallV Try.prog 64 args w K :=
  call_of follows Try.func64 (by kernel_rfl) (by kernel_rfl) hn h
def c_culletlaw04_alike16 : C := .seq (.ops [⟨0, (some 4), none, .mov (.c (.bool false)), []⟩]) (.seq (.seq (.ops [⟨0, (some 7), none, .mov (.t 0), []⟩, ⟨1, (some 8), none, .len (.t 7), []⟩, ⟨2, (some 9), none, .mov (.t 1), []⟩, ⟨3, (some 10), none, .len (.t 9), []⟩, ⟨4, (some 11), none, .bin .neq (.t 8) (.t 10), []⟩]) (.ite (.t 11) (.seq (.ops [⟨0, (some 4), none, .mov (.c (.bool false)), []⟩]) .ret) .skip)) (.seq (.seq (.ops [⟨0, (some 5), none, .mov (.c (.int .i64 0)), []⟩]) (.block 0 (.loop (.seq (.seq (.ops [⟨0, (some 12), none, .mov (.t 5), []⟩, ⟨1, (some 13), none, .mov (.t 0), []⟩, ⟨2, (some 14), none, .len (.t 13), []⟩, ⟨3, (some 15), none, .bin .lss (.t 12) (.t 14), []⟩]) (.ite (.t 15) .skip (.exit 0))) (.seq (.block 1 (.seq (.seq (.dops [⟨0, (some 18), none, .mov (.t 0), []⟩, ⟨1, (some 19), none, .mov (.t 5), []⟩, ⟨2, (some 20), none, .ixs 1 (.t 18) (.t 19), []⟩, ⟨3, (some 21), none, .ld (.t 20), []⟩, ⟨4, (some 22), none, .len (.t 21), []⟩, ⟨5, (some 23), none, .mov (.t 1), []⟩, ⟨6, (some 24), none, .mov (.t 5), []⟩, ⟨7, (some 25), none, .ixs 1 (.t 23) (.t 24), []⟩, ⟨8, (some 26), none, .ld (.t 25), []⟩, ⟨9, (some 27), none, .len (.t 26), []⟩, ⟨10, (some 28), none, .bin .neq (.t 22) (.t 27), []⟩]) (.ite (.t 28) (.seq (.ops [⟨0, (some 4), none, .mov (.c (.bool false)), []⟩]) .ret) .skip)) (.seq (.ops [⟨0, (some 6), none, .mov (.c (.int .i64 0)), []⟩]) (.block 2 (.loop (.seq (.seq (.ops [⟨0, (some 29), none, .mov (.t 6), []⟩, ⟨1, (some 30), none, .mov (.t 0), []⟩, ⟨2, (some 31), none, .mov (.t 5), []⟩, ⟨3, (some 32), none, .ixs 1 (.t 30) (.t 31), []⟩, ⟨4, (some 33), none, .ld (.t 32), []⟩, ⟨5, (some 34), none, .len (.t 33), []⟩, ⟨6, (some 35), none, .bin .lss (.t 29) (.t 34), []⟩]) (.ite (.t 35) .skip (.exit 2))) (.seq (.block 3 (.seq (.dops [⟨0, (some 38), none, .mov (.t 0), []⟩, ⟨1, (some 39), none, .mov (.t 5), []⟩, ⟨2, (some 40), none, .ixs 1 (.t 38) (.t 39), []⟩, ⟨3, (some 41), none, .ld (.t 40), []⟩, ⟨4, (some 42), none, .mov (.t 6), []⟩, ⟨5, (some 43), none, .ixs 1 (.t 41) (.t 42), []⟩, ⟨6, (some 44), none, .ld (.t 43), []⟩, ⟨7, (some 45), none, .mov (.t 1), []⟩, ⟨8, (some 46), none, .mov (.t 5), []⟩, ⟨9, (some 47), none, .ixs 1 (.t 45) (.t 46), []⟩, ⟨10, (some 48), none, .ld (.t 47), []⟩, ⟨11, (some 49), none, .mov (.t 6), []⟩, ⟨12, (some 50), none, .ixs 1 (.t 48) (.t 49), []⟩, ⟨13, (some 51), none, .ld (.t 50), []⟩, ⟨14, (some 52), none, .bin .neq (.t 44) (.t 51), []⟩]) (.ite (.t 52) (.seq (.ops [⟨0, (some 4), none, .mov (.c (.bool false)), []⟩]) .ret) .skip))) (.ops [⟨0, (some 36), none, .mov (.t 6), []⟩, ⟨1, (some 37), none, .bin .add (.t 36) (.c (.int .i64 1)), []⟩, ⟨2, (some 6), none, .mov (.t 37), []⟩])))))))) (.ops [⟨0, (some 16), none, .mov (.t 5), []⟩, ⟨1, (some 17), none, .bin .add (.t 16) (.c (.int .i64 1)), []⟩, ⟨2, (some 5), none, .mov (.t 17), []⟩])))))) (.seq (.ops [⟨0, (some 4), none, .mov (.c (.bool true)), []⟩]) .ret)))
attribute [irreducible] c_culletlaw04_alike16
theorem run_culletlaw04_alike16 {args : List Value} {w : World} {K : Value → World → Prop} (hn : args.length ≤ 53) (h : WP Try.prog c_culletlaw04_alike16 (endQ [.t 4] K) (initT args) w) : CallV Try.prog 65 args w K :=
  call_of follows Try.func65 (by kernel_rfl) (by kernel_rfl) hn h
def c_culletlaw04_roomy8 : C := .seq (.ops [⟨0, (some 2), none, .mov (.c (.slice none 0 0)), []⟩, ⟨1, (some 3), none, .mov (.c (.slice none 0 0)), []⟩]) (.seq (.ops [⟨0, (some 5), none, .bsl 5 0 [.int .u8 0] [], []⟩, ⟨1, (some 6), none, .mov (.t 0), []⟩, ⟨2, (some 7), none, .app 5 1 [.int .u8 0] (.t 5) (.t 6), []⟩, ⟨3, (some 8), none, .bsl 5 8 [.int .u8 0] [(0, (1, .c (.int .u8 91))), (1, (1, .c (.int .u8 92))), (2, (1, .c (.int .u8 93))), (3, (1, .c (.int .u8 94))), (4, (1, .c (.int .u8 95))), (5, (1, .c (.int .u8 96))), (6, (1, .c (.int .u8 97))), (7, (1, .c (.int .u8 98)))], []⟩, ⟨4, (some 9), none, .app 5 1 [.int .u8 0] (.t 7) (.t 8), []⟩, ⟨5, (some 4), none, .mov (.t 9), []⟩]) (.seq (.dops [⟨0, (some 10), none, .mov (.t 4), []⟩, ⟨1, (some 11), none, .mov (.t 4), []⟩, ⟨2, (some 12), none, .mov (.t 0), []⟩, ⟨3, (some 13), none, .len (.t 12), []⟩, ⟨4, (some 14), none, .slc 1 (.t 11) none (some (.t 13)) none, []⟩, ⟨5, (some 2), none, .mov (.t 10), []⟩, ⟨6, (some 3), none, .mov (.t 14), []⟩]) .ret))
attribute [irreducible] c_culletlaw04_roomy8
theorem run_culletlaw04_roomy8 {args : List Value} {w : World} {K : Value → World → Prop} (hn : args.length ≤ 15) (h : WP Try.prog c_culletlaw04_roomy8 (endQ [.t 2, .t 3] K) (initT args) w) : CallV Try.prog 66 args w K :=
  call_of follows Try.func66 (by kernel_rfl) (by kernel_rfl) hn h
def c_culletlaw04_copies8 : C := .seq (.ops [⟨0, (some 2), none, .mov (.c (.slice none 0 0)), []⟩]) (.seq (.ops [⟨0, (some 5), none, .mov (.t 0), []⟩, ⟨1, (some 6), none, .len (.t 5), []⟩, ⟨2, (some 7), none, .mks 57 24 [.slice none 0 0] (.t 6) (.t 6), []⟩, ⟨3, (some 3), none, .mov (.t 7), []⟩]) (.seq (.seq (.ops [⟨0, (some 4), none, .mov (.c (.int .i64 0)), []⟩]) (.block 0 (.loop (.seq (.seq (.ops [⟨0, (some 8), none, .mov (.t 4), []⟩, ⟨1, (some 9), none, .mov (.t 0), []⟩, ⟨2, (some 10), none, .len (.t 9), []⟩, ⟨3, (some 11), none, .bin .lss (.t 8) (.t 10), []⟩]) (.ite (.t 11) .skip (.exit 0))) (.seq (.block 1 (.ops [⟨0, (some 14), none, .mov (.t 3), []⟩, ⟨1, (some 15), none, .mov (.t 4), []⟩, ⟨2, (some 16), none, .bsl 5 0 [.int .u8 0] [], []⟩, ⟨3, (some 17), none, .mov (.t 0), []⟩, ⟨4, (some 18), none, .mov (.t 4), []⟩, ⟨5, (some 19), none, .ixs 1 (.t 17) (.t 18), []⟩, ⟨6, (some 20), none, .ld (.t 19), []⟩, ⟨7, (some 21), none, .app 5 1 [.int .u8 0] (.t 16) (.t 20), []⟩, ⟨8, (some 22), none, .ixs 1 (.t 14) (.t 15), []⟩, ⟨9, none, none, .st (.t 22) (.t 21), []⟩])) (.ops [⟨0, (some 12), none, .mov (.t 4), []⟩, ⟨1, (some 13), none, .bin .add (.t 12) (.c (.int .i64 1)), []⟩, ⟨2, (some 4), none, .mov (.t 13), []⟩])))))) (.seq (.ops [⟨0, (some 23), none, .mov (.t 3), []⟩, ⟨1, (some 2), none, .mov (.t 23), []⟩]) .ret)))
attribute [irreducible] c_culletlaw04_copies8
theorem run_culletlaw04_copies8 {args : List Value} {w : World} {K : Value → World → Prop} (hn : args.length ≤ 24) (h : WP Try.prog c_culletlaw04_copies8 (endQ [.t 2] K) (initT args) w) : CallV Try.prog 67 args w K :=
  call_of follows Try.func67 (by kernel_rfl) (by kernel_rfl) hn h
def c_culletlaw04_alike8 : C := .seq (.ops [⟨0, (some 4), none, .mov (.c (.bool false)), []⟩]) (.seq (.seq (.ops [⟨0, (some 7), none, .mov (.t 0), []⟩, ⟨1, (some 8), none, .len (.t 7), []⟩, ⟨2, (some 9), none, .mov (.t 1), []⟩, ⟨3, (some 10), none, .len (.t 9), []⟩, ⟨4, (some 11), none, .bin .neq (.t 8) (.t 10), []⟩]) (.ite (.t 11) (.seq (.ops [⟨0, (some 4), none, .mov (.c (.bool false)), []⟩]) .ret) .skip)) (.seq (.seq (.ops [⟨0, (some 5), none, .mov (.c (.int .i64 0)), []⟩]) (.block 0 (.loop (.seq (.seq (.ops [⟨0, (some 12), none, .mov (.t 5), []⟩, ⟨1, (some 13), none, .mov (.t 0), []⟩, ⟨2, (some 14), none, .len (.t 13), []⟩, ⟨3, (some 15), none, .bin .lss (.t 12) (.t 14), []⟩]) (.ite (.t 15) .skip (.exit 0))) (.seq (.block 1 (.seq (.seq (.dops [⟨0, (some 18), none, .mov (.t 0), []⟩, ⟨1, (some 19), none, .mov (.t 5), []⟩, ⟨2, (some 20), none, .ixs 1 (.t 18) (.t 19), []⟩, ⟨3, (some 21), none, .ld (.t 20), []⟩, ⟨4, (some 22), none, .len (.t 21), []⟩, ⟨5, (some 23), none, .mov (.t 1), []⟩, ⟨6, (some 24), none, .mov (.t 5), []⟩, ⟨7, (some 25), none, .ixs 1 (.t 23) (.t 24), []⟩, ⟨8, (some 26), none, .ld (.t 25), []⟩, ⟨9, (some 27), none, .len (.t 26), []⟩, ⟨10, (some 28), none, .bin .neq (.t 22) (.t 27), []⟩]) (.ite (.t 28) (.seq (.ops [⟨0, (some 4), none, .mov (.c (.bool false)), []⟩]) .ret) .skip)) (.seq (.ops [⟨0, (some 6), none, .mov (.c (.int .i64 0)), []⟩]) (.block 2 (.loop (.seq (.seq (.ops [⟨0, (some 29), none, .mov (.t 6), []⟩, ⟨1, (some 30), none, .mov (.t 0), []⟩, ⟨2, (some 31), none, .mov (.t 5), []⟩, ⟨3, (some 32), none, .ixs 1 (.t 30) (.t 31), []⟩, ⟨4, (some 33), none, .ld (.t 32), []⟩, ⟨5, (some 34), none, .len (.t 33), []⟩, ⟨6, (some 35), none, .bin .lss (.t 29) (.t 34), []⟩]) (.ite (.t 35) .skip (.exit 2))) (.seq (.block 3 (.seq (.dops [⟨0, (some 38), none, .mov (.t 0), []⟩, ⟨1, (some 39), none, .mov (.t 5), []⟩, ⟨2, (some 40), none, .ixs 1 (.t 38) (.t 39), []⟩, ⟨3, (some 41), none, .ld (.t 40), []⟩, ⟨4, (some 42), none, .mov (.t 6), []⟩, ⟨5, (some 43), none, .ixs 1 (.t 41) (.t 42), []⟩, ⟨6, (some 44), none, .ld (.t 43), []⟩, ⟨7, (some 45), none, .mov (.t 1), []⟩, ⟨8, (some 46), none, .mov (.t 5), []⟩, ⟨9, (some 47), none, .ixs 1 (.t 45) (.t 46), []⟩, ⟨10, (some 48), none, .ld (.t 47), []⟩, ⟨11, (some 49), none, .mov (.t 6), []⟩, ⟨12, (some 50), none, .ixs 1 (.t 48) (.t 49), []⟩, ⟨13, (some 51), none, .ld (.t 50), []⟩, ⟨14, (some 52), none, .bin .neq (.t 44) (.t 51), []⟩]) (.ite (.t 52) (.seq (.ops [⟨0, (some 4), none, .mov (.c (.bool false)), []⟩]) .ret) .skip))) (.ops [⟨0, (some 36), none, .mov (.t 6), []⟩, ⟨1, (some 37), none, .bin .add (.t 36) (.c (.int .i64 1)), []⟩, ⟨2, (some 6), none, .mov (.t 37), []⟩])))))))) (.ops [⟨0, (some 16), none, .mov (.t 5), []⟩, ⟨1, (some 17), none, .bin .add (.t 16) (.c (.int .i64 1)), []⟩, ⟨2, (some 5), none, .mov (.t 17), []⟩])))))) (.seq (.ops [⟨0, (some 4), none, .mov (.c (.bool true)), []⟩]) .ret)))
attribute [irreducible] c_culletlaw04_alike8
theorem run_culletlaw04_alike8 {args : List Value} {w : World} {K : Value → World → Prop} (hn : args.length ≤ 53) (h : WP Try.prog c_culletlaw04_alike8 (endQ [.t 4] K) (initT args) w) : CallV Try.prog 68 args w K :=
  call_of follows Try.func68 (by kernel_rfl) (by kernel_rfl) hn h
end Go.Proofs.Ytcdagkcchfibjaa.Fw
namespace Go.Proofs.Ytcdagkcchfibjaa.Fw
open Go Go.Fw
def mkw : List (El 16) := [⟨91⟩, ⟨92⟩, ⟨93⟩, ⟨94⟩, ⟨95⟩, ⟨96⟩, ⟨97⟩, ⟨98⟩]
theorem mkw_len : mkw.length = 8 := rfl
theorem culletlaw04_roomy16_spec (w : World) (s : Value) (l : List (El 16)) (h : Sl w s l) (hb : l.length ≤ 70368744175616) :
    CallV Try.prog 63 [s] w fun v w' => RowKit.Below w.heap.size w w' ∧ ∃ sv, v = .tuple #[sv, Fw.sub sv 0 l.length] ∧ Seg w.heap.size w'.heap.size w' sv (l ++ mkw) := by
  refine run_culletlaw04_roomy16 (by simp) ?_
  simp only [c_culletlaw04_roomy16, WS, List.getElem_cons_zero, List.getElem_cons_succ, Option.isNone_some, Option.isNone_none, List.getD_cons_zero, List.getD_cons_succ, I.at, atL, atO, atP, evp, evs, retV, ↓reduceIte, Nat.reduceEqDiff, reduceCtorEq]
  refine X_bsl (zs := ([] : List (El 16))) (by rfl) (by rfl) fun p1 w1 o1 hB => ?_
  have h1 := h.up hB
  simp (maxSteps := 1000000) (disch := omega) only [WS, List.getElem_cons_zero, List.getElem_cons_succ, Option.isNone_some, Option.isNone_none, List.getD_cons_zero, List.getD_cons_succ, I.at, atL, atO, atP, evp, evs, retV, ↓reduceIte, Nat.reduceEqDiff, reduceCtorEq, AS]
  refine o1.Xapp2 h1 hB.size (by simp only [List.length_nil, maxBytes]; omega) (by simp only [List.length_nil]; omega) fun p2 w2 o2 hg => ?_
  rw [List.nil_append] at o2
  have B := hg.below hB hB.size fun b hb => (o1.blk b hb).1
  clear hg o1 h1 hB
  simp (maxSteps := 1000000) (disch := omega) only [WS, List.getElem_cons_zero, List.getElem_cons_succ, Option.isNone_some, Option.isNone_none, List.getD_cons_zero, List.getD_cons_succ, I.at, atL, atO, atP, evp, evs, retV, ↓reduceIte, Nat.reduceEqDiff, reduceCtorEq, AS]
  refine X_bsl (zs := mkw) (by rfl) (by rfl) fun p3 w3 o3 hB => ?_
  have o2 := o2.up hB
  have B := B.trans (hB.mono B.size)
  simp (maxSteps := 1000000) (disch := omega) only [WS, List.getElem_cons_zero, List.getElem_cons_succ, Option.isNone_some, Option.isNone_none, List.getD_cons_zero, List.getD_cons_succ, I.at, atL, atO, atP, evp, evs, retV, ↓reduceIte, Nat.reduceEqDiff, reduceCtorEq, AS]
  refine o2.Xapp2 o3.sl B.size (by simp only [mkw_len, maxBytes]; omega) (by simp only [mkw_len]; omega) fun sv w4 ov hg => ?_
  have B := hg.below B B.size fun b hb => (o2.blk b hb).1
  have h4 := (h.up B).drew
  have ov := ov.drew
  have B := B.trans ((bel_drew w4).mono B.size)
  have hle : l.length ≤ (l ++ mkw).length := by simp
  simp (maxSteps := 1000000) (disch := omega) only [WS, List.getElem_cons_zero, List.getElem_cons_succ, Option.isNone_some, Option.isNone_none, List.getD_cons_zero, List.getD_cons_succ, I.at, atL, atO, atP, evp, evs, retV, ↓reduceIte, Nat.reduceEqDiff, reduceCtorEq, AS]
  refine WP_dops ?_
  simp (maxSteps := 1000000) (disch := omega) only [ES, List.mem_cons, List.not_mem_nil, implies_true, forall_const, WS, List.getElem_cons_zero, List.getElem_cons_succ, Option.isNone_some, Option.isNone_none, List.getD_cons_zero, List.getD_cons_succ, I.at, atL, atO, atP, evp, evs, retV, ↓reduceIte, Nat.reduceEqDiff, reduceCtorEq, AS, h4.Elen, ov.sl.EslcHi hle]
  exact ⟨B, sv, rfl, ov, fun b hb => (ov.blk b hb).2⟩
/-- Lists handed on. -/
structure Rlw (w : World) (s : Value) (hs : List Hd) (R : Nat → List (El 16)) : Prop where
  sl : Sl w s hs
  row : ∀ j (h : j < hs.length), Sl w (Cell.v hs[j]) (R j)
  len : ∀ j, j < hs.length → (R j).length ≤ 70368744175640
  num : hs.length ≤ 30
theorem Rlw.up {w w' : World} {s : Value} {hs : List Hd} {R : Nat → List (El 16)} (h : Rlw w s hs R) (hB : RowKit.Below w.heap.size w w') : Rlw w' s hs R := ⟨h.sl.up hB, fun i hi => (h.row i hi).up hB, h.len, h.num⟩
theorem culletlaw04_copies16_spec (w : World) (s : Value) (hin : List Hd) (R : Nat → List (El 16)) (h : Rlw w s hin R) :
    CallV Try.prog 64 [s] w fun v w' => RowKit.Below w.heap.size w w' ∧ ∃ hs, hs.length = hin.length ∧ Rg w.heap.size w'.heap.size w' v hs R := by
  have hnum := h.num
  refine run_culletlaw04_copies16 (by simp) ?_
  simp only [c_culletlaw04_copies16, WS, List.getElem_cons_zero, List.getElem_cons_succ, Option.isNone_some, Option.isNone_none, List.getD_cons_zero, List.getD_cons_succ, I.at, atL, atO, atP, evp, evs, retV, ↓reduceIte, Nat.reduceEqDiff, reduceCtorEq]
  simp (maxSteps := 1000000) (disch := omega) only [WS, List.getElem_cons_zero, List.getElem_cons_succ, Option.isNone_some, Option.isNone_none, List.getD_cons_zero, List.getD_cons_succ, I.at, atL, atO, atP, evp, evs, retV, ↓reduceIte, Nat.reduceEqDiff, reduceCtorEq, AS, h.sl.Xlen]
  refine X_mks (x := hdn) (by simp only [maxBytes]; omega) (by omega) fun out w1 oo hB1 => ?_
  have oob := oo.blk
  have B1s := hB1.size
  simp (maxSteps := 1000000) (disch := omega) only [WS, List.getElem_cons_zero, List.getElem_cons_succ, Option.isNone_some, Option.isNone_none, List.getD_cons_zero, List.getD_cons_succ, I.at, atL, atO, atP, evp, evs, retV, ↓reduceIte, Nat.reduceEqDiff, reduceCtorEq, AS]
  refine loop_of (fun t w' => t 0 = s ∧ t 3 = out ∧ RowKit.Below w.heap.size w w' ∧ w1.heap.size ≤ w'.heap.size ∧ ∃ (i : Nat) (G : List Hd) (E : List (Value × List (El 16))), t 4 = .int .i64 (i : Int) ∧ i ≤ hin.length ∧ Ow w.heap.size w' out G ∧ G.length = hin.length ∧ Lst w1.heap.size E w' ∧ E.length = i ∧ ∀ j, j < i → ∃ e, E[j]? = some (e, R j) ∧ Hj G j = e)
    (fun t _ => hin.length - (toI (t 4)).toNat) ⟨by simp only [WS, List.getElem_cons_zero, List.getElem_cons_succ, Option.isNone_some, Option.isNone_none, List.getD_cons_zero, List.getD_cons_succ, I.at, atL, atO, atP, evp, evs, retV, ↓reduceIte, Nat.reduceEqDiff, reduceCtorEq], by simp only [WS, List.getElem_cons_zero, List.getElem_cons_succ, Option.isNone_some, Option.isNone_none, List.getD_cons_zero, List.getD_cons_succ, I.at, atL, atO, atP, evp, evs, retV, ↓reduceIte, Nat.reduceEqDiff, reduceCtorEq], hB1, Nat.le_refl _, 0, _, [], rfl, by omega, oo, by simp, Lst.nil _ _, rfl, fun j hj => by omega⟩ ?_
  clear oo hB1
  rintro t w2 ⟨t0, t3, B, S, i, G, E, t4, hi, og, lG, hL, lE, hE⟩
  have h2 := h.up B
  by_cases hlt : i < hin.length
  · have iG : i < G.length := by omega
    have hlen := h.len i hlt
    obtain ⟨ob, hob, hoblt⟩ := og.sl.blk_lt (by rintro rfl; simp at lG; omega)
    have obw := (oob ob hob).1
    have hobl := (oob ob hob).2
    simp (maxSteps := 1000000) (disch := omega) only [WS, List.getElem_cons_zero, List.getElem_cons_succ, Option.isNone_some, Option.isNone_none, List.getD_cons_zero, List.getD_cons_succ, I.at, atL, atO, atP, evp, evs, retV, ↓reduceIte, Nat.reduceEqDiff, reduceCtorEq, AS, t0, t3, t4, h2.sl.Xlen]
    refine X_bsl (zs := ([] : List (El 16))) (by rfl) (by rfl) fun p w3 op hB => ?_
    have h3 := h2.up hB
    simp (maxSteps := 1000000) (disch := omega) only [WS, List.getElem_cons_zero, List.getElem_cons_succ, Option.isNone_some, Option.isNone_none, List.getD_cons_zero, List.getD_cons_succ, I.at, atL, atO, atP, evp, evs, retV, ↓reduceIte, Nat.reduceEqDiff, reduceCtorEq, AS, t0, t3, t4, h3.sl.Xix hlt, h3.sl.Xld hlt]
    refine op.Xapp2 (h3.row i hlt) hB.size (by simp only [List.length_nil, maxBytes]; omega) (by simp only [List.length_nil]; omega) fun q w4 oq hg => ?_
    rw [List.nil_append] at oq
    have D := hg.below hB hB.size fun b hb => (op.blk b hb).1
    clear hg op hB h3
    have og := og.up D
    have hL := hL.push D S oq
    have B := B.trans (D.mono B.size)
    have S := Nat.le_trans S D.size
    have hsub := oq.sl.hd.1
    simp (maxSteps := 1000000) (disch := omega) only [WS, List.getElem_cons_zero, List.getElem_cons_succ, Option.isNone_some, Option.isNone_none, List.getD_cons_zero, List.getD_cons_succ, I.at, atL, atO, atP, evp, evs, retV, ↓reduceIte, Nat.reduceEqDiff, reduceCtorEq, AS, t0, t3, t4, og.sl.Xix iG]
    rw [← hsub]
    refine og.Xst iG (hd q) fun w7 og7 hg7 => ?_
    rw [hob] at hg7
    simp (maxSteps := 1000000) (disch := omega) only [WS, List.getElem_cons_zero, List.getElem_cons_succ, Option.isNone_some, Option.isNone_none, List.getD_cons_zero, List.getD_cons_succ, I.at, atL, atO, atP, evp, evs, retV, ↓reduceIte, Nat.reduceEqDiff, reduceCtorEq, AS, t0, t3, t4]
    refine ⟨⟨B.grown hg7 B.size (fun b hb => by cases hb; exact obw), Nat.le_trans S hg7.size, i + 1, _, _, rfl, by omega, og7, by rw [List.length_set]; exact lG, hL.grown hobl hg7, by rw [List.length_append, lE]; rfl, fun j hj => ?_⟩, by omega⟩
    by_cases hji : j = i
    · subst hji
      refine ⟨q, by rw [List.getElem?_append_right (by omega), lE, Nat.sub_self]; rfl, ?_⟩
      rw [Hj_set iG, if_pos rfl, hsub]
    · obtain ⟨e, he1, he2⟩ := hE j (by omega)
      exact ⟨e, by rw [List.getElem?_append_left (by omega)]; exact he1, by rw [Hj_set iG, if_neg hji]; exact he2⟩
  · obtain rfl : i = hin.length := by omega
    simp (maxSteps := 1000000) (disch := omega) only [WS, List.getElem_cons_zero, List.getElem_cons_succ, Option.isNone_some, Option.isNone_none, List.getD_cons_zero, List.getD_cons_succ, I.at, atL, atO, atP, evp, evs, retV, ↓reduceIte, Nat.reduceEqDiff, reduceCtorEq, AS, t0, t3, t4, h2.sl.Xlen]
    exact ⟨B, G, lG, Rg.of og (fun b hb => (oob b hb).2) hL B1s lG hE⟩
theorem culletlaw04_alike16_spec (w : World) (s1 s2 : Value) (hs1 hs2 : List Hd) (R : Nat → List (El 16)) (h1 : Rlw w s1 hs1 R) (h2 : Rlw w s2 hs2 R) (hl : hs1.length = hs2.length) :
    CallV Try.prog 65 [s1, s2] w fun v w' => v = .bool true ∧ RowKit.Below w.heap.size w w' := by
  have dt : ∀ e : Int, decide (e = e) = true := fun e => decide_eq_true rfl
  have hnum := h1.num
  refine run_culletlaw04_alike16 (by simp) ?_
  simp only [c_culletlaw04_alike16, WS, List.getElem_cons_zero, List.getElem_cons_succ, Option.isNone_some, Option.isNone_none, List.getD_cons_zero, List.getD_cons_succ, I.at, atL, atO, atP, evp, evs, retV, ↓reduceIte, Nat.reduceEqDiff, reduceCtorEq]
  simp (maxSteps := 1000000) (disch := omega) only [WS, List.getElem_cons_zero, List.getElem_cons_succ, Option.isNone_some, Option.isNone_none, List.getD_cons_zero, List.getD_cons_succ, I.at, atL, atO, atP, evp, evs, retV, ↓reduceIte, Nat.reduceEqDiff, reduceCtorEq, AS, h1.sl.Xlen, h2.sl.Xlen, hl, dt]
  refine loop_of (fun t w' => t 0 = s1 ∧ t 1 = s2 ∧ RowKit.Below w.heap.size w w' ∧ ∃ i : Nat, t 5 = .int .i64 (i : Int) ∧ i ≤ hs1.length) (fun t _ => hs1.length - (toI (t 5)).toNat) ⟨by simp only [WS, List.getElem_cons_zero, List.getElem_cons_succ, Option.isNone_some, Option.isNone_none, List.getD_cons_zero, List.getD_cons_succ, I.at, atL, atO, atP, evp, evs, retV, ↓reduceIte, Nat.reduceEqDiff, reduceCtorEq], by simp only [WS, List.getElem_cons_zero, List.getElem_cons_succ, Option.isNone_some, Option.isNone_none, List.getD_cons_zero, List.getD_cons_succ, I.at, atL, atO, atP, evp, evs, retV, ↓reduceIte, Nat.reduceEqDiff, reduceCtorEq], RowKit.Below.refl _ _, 0, rfl, by omega⟩ ?_
  rintro t w' ⟨t0, t1, B, i, t5, hi⟩
  have g1 := h1.up B
  have g2 := h2.up B
  by_cases hlt : i < hs1.length
  · have hlt2 : i < hs2.length := by omega
    have hRi := h1.len i hlt
    have k1 := g1.sl.drew
    have k2 := g2.sl.drew
    have r1 := (g1.row i hlt).drew
    have r2 := (g2.row i hlt2).drew
    simp (maxSteps := 1000000) (disch := omega) only [WS, List.getElem_cons_zero, List.getElem_cons_succ, Option.isNone_some, Option.isNone_none, List.getD_cons_zero, List.getD_cons_succ, I.at, atL, atO, atP, evp, evs, retV, ↓reduceIte, Nat.reduceEqDiff, reduceCtorEq, AS, t0, t1, t5, g1.sl.Xlen]
    refine WP_dops ?_
    simp (maxSteps := 1000000) (disch := omega) only [ES, List.mem_cons, List.not_mem_nil, implies_true, forall_const, WS, List.getElem_cons_zero, List.getElem_cons_succ, Option.isNone_some, Option.isNone_none, List.getD_cons_zero, List.getD_cons_succ, I.at, atL, atO, atP, evp, evs, retV, ↓reduceIte, Nat.reduceEqDiff, reduceCtorEq, AS, t0, t1, t5, k1.Eix hlt, k1.Eld hlt, k2.Eix hlt2, k2.Eld hlt2, r1.Elen, r2.Elen, dt]
    refine loop_of (fun t w' => t 0 = s1 ∧ t 1 = s2 ∧ t 5 = .int .i64 (i : Int) ∧ RowKit.Below w.heap.size w w' ∧ ∃ j : Nat, t 6 = .int .i64 (j : Int) ∧ j ≤ (R i).length) (fun t _ => (R i).length - (toI (t 6)).toNat) ⟨by simp only [WS, List.getElem_cons_zero, List.getElem_cons_succ, Option.isNone_some, Option.isNone_none, List.getD_cons_zero, List.getD_cons_succ, I.at, atL, atO, atP, evp, evs, retV, ↓reduceIte, Nat.reduceEqDiff, reduceCtorEq]; exact t0, by simp only [WS, List.getElem_cons_zero, List.getElem_cons_succ, Option.isNone_some, Option.isNone_none, List.getD_cons_zero, List.getD_cons_succ, I.at, atL, atO, atP, evp, evs, retV, ↓reduceIte, Nat.reduceEqDiff, reduceCtorEq]; exact t1, by simp only [WS, List.getElem_cons_zero, List.getElem_cons_succ, Option.isNone_some, Option.isNone_none, List.getD_cons_zero, List.getD_cons_succ, I.at, atL, atO, atP, evp, evs, retV, ↓reduceIte, Nat.reduceEqDiff, reduceCtorEq]; exact t5, B.trans ((bel_drew w').mono B.size), 0, rfl, by omega⟩ ?_
    clear t0 t1 t5 B g1 g2 k1 k2 r1 r2
    rintro t w2 ⟨t0, t1, t5, B, j, t6, hj⟩
    have g1 := h1.up B
    have g2 := h2.up B
    by_cases hjl : j < (R i).length
    · have k1 := g1.sl.drew
      have k2 := g2.sl.drew
      have r1 := (g1.row i hlt).drew
      have r2 := (g2.row i hlt2).drew
      simp (maxSteps := 1000000) (disch := omega) only [WS, List.getElem_cons_zero, List.getElem_cons_succ, Option.isNone_some, Option.isNone_none, List.getD_cons_zero, List.getD_cons_succ, I.at, atL, atO, atP, evp, evs, retV, ↓reduceIte, Nat.reduceEqDiff, reduceCtorEq, AS, t0, t1, t5, t6, g1.sl.Xix hlt, g1.sl.Xld hlt, (g1.row i hlt).Xlen]
      refine WP_dops ?_
      simp (maxSteps := 1000000) (disch := omega) only [ES, List.mem_cons, List.not_mem_nil, implies_true, forall_const, WS, List.getElem_cons_zero, List.getElem_cons_succ, Option.isNone_some, Option.isNone_none, List.getD_cons_zero, List.getD_cons_succ, I.at, atL, atO, atP, evp, evs, retV, ↓reduceIte, Nat.reduceEqDiff, reduceCtorEq, AS, t0, t1, t5, t6, k1.Eix hlt, k1.Eld hlt, k2.Eix hlt2, k2.Eld hlt2, r1.Eix hjl, r1.Eld hjl, r2.Eix hjl, r2.Eld hjl, cell_e16, dt]
      exact ⟨⟨B.trans ((bel_drew w2).mono B.size), j + 1, rfl, by omega⟩, by omega⟩
    · simp (maxSteps := 1000000) (disch := omega) only [WS, List.getElem_cons_zero, List.getElem_cons_succ, Option.isNone_some, Option.isNone_none, List.getD_cons_zero, List.getD_cons_succ, I.at, atL, atO, atP, evp, evs, retV, ↓reduceIte, Nat.reduceEqDiff, reduceCtorEq, AS, t0, t1, t5, t6, g1.sl.Xix hlt, g1.sl.Xld hlt, (g1.row i hlt).Xlen]
      exact ⟨⟨B, i + 1, rfl, by omega⟩, by omega⟩
  · obtain rfl : i = hs1.length := by omega
    simp (maxSteps := 1000000) (disch := omega) only [WS, List.getElem_cons_zero, List.getElem_cons_succ, Option.isNone_some, Option.isNone_none, List.getD_cons_zero, List.getD_cons_succ, I.at, atL, atO, atP, evp, evs, retV, ↓reduceIte, Nat.reduceEqDiff, reduceCtorEq, AS, t0, t1, t5, g1.sl.Xlen]
    exact B
end Go.Proofs.Ytcdagkcchfibjaa.Fw

namespace Go.Proofs.Ytcdagkcchfibjaa.Fw
open Go Go.Fw
def mkb : List (El 8) := [⟨91⟩, ⟨92⟩, ⟨93⟩, ⟨94⟩, ⟨95⟩, ⟨96⟩, ⟨97⟩, ⟨98⟩]
theorem mkb_len : mkb.length = 8 := rfl
theorem culletlaw04_roomy8_spec (w : World) (s : Value) (l : List (El 8)) (h : Sl w s l) (hb : l.length ≤ 70368744175616) :
    CallV Try.prog 66 [s] w fun v w' => RowKit.Below w.heap.size w w' ∧ ∃ sv, v = .tuple #[sv, Fw.sub sv 0 l.length] ∧ Seg w.heap.size w'.heap.size w' sv (l ++ mkb) := by
  refine run_culletlaw04_roomy8 (by simp) ?_
  simp only [c_culletlaw04_roomy8, WS, List.getElem_cons_zero, List.getElem_cons_succ, Option.isNone_some, Option.isNone_none, List.getD_cons_zero, List.getD_cons_succ, I.at, atL, atO, atP, evp, evs, retV, ↓reduceIte, Nat.reduceEqDiff, reduceCtorEq]
  refine X_bsl (zs := ([] : List (El 8))) (by rfl) (by rfl) fun p1 w1 o1 hB => ?_
  have h1 := h.up hB
  simp (maxSteps := 1000000) (disch := omega) only [WS, List.getElem_cons_zero, List.getElem_cons_succ, Option.isNone_some, Option.isNone_none, List.getD_cons_zero, List.getD_cons_succ, I.at, atL, atO, atP, evp, evs, retV, ↓reduceIte, Nat.reduceEqDiff, reduceCtorEq, AS]
  refine o1.Xapp2 h1 hB.size (by simp only [List.length_nil, maxBytes]; omega) (by simp only [List.length_nil]; omega) fun p2 w2 o2 hg => ?_
  rw [List.nil_append] at o2
  have B := hg.below hB hB.size fun b hb => (o1.blk b hb).1
  clear hg o1 h1 hB
  simp (maxSteps := 1000000) (disch := omega) only [WS, List.getElem_cons_zero, List.getElem_cons_succ, Option.isNone_some, Option.isNone_none, List.getD_cons_zero, List.getD_cons_succ, I.at, atL, atO, atP, evp, evs, retV, ↓reduceIte, Nat.reduceEqDiff, reduceCtorEq, AS]
  refine X_bsl (zs := mkb) (by rfl) (by rfl) fun p3 w3 o3 hB => ?_
  have o2 := o2.up hB
  have B := B.trans (hB.mono B.size)
  simp (maxSteps := 1000000) (disch := omega) only [WS, List.getElem_cons_zero, List.getElem_cons_succ, Option.isNone_some, Option.isNone_none, List.getD_cons_zero, List.getD_cons_succ, I.at, atL, atO, atP, evp, evs, retV, ↓reduceIte, Nat.reduceEqDiff, reduceCtorEq, AS]
  refine o2.Xapp2 o3.sl B.size (by simp only [mkb_len, maxBytes]; omega) (by simp only [mkb_len]; omega) fun sv w4 ov hg => ?_
  have B := hg.below B B.size fun b hb => (o2.blk b hb).1
  have h4 := (h.up B).drew
  have ov := ov.drew
  have B := B.trans ((bel_drew w4).mono B.size)
  have hle : l.length ≤ (l ++ mkb).length := by simp
  simp (maxSteps := 1000000) (disch := omega) only [WS, List.getElem_cons_zero, List.getElem_cons_succ, Option.isNone_some, Option.isNone_none, List.getD_cons_zero, List.getD_cons_succ, I.at, atL, atO, atP, evp, evs, retV, ↓reduceIte, Nat.reduceEqDiff, reduceCtorEq, AS]
  refine WP_dops ?_
  simp (maxSteps := 1000000) (disch := omega) only [ES, List.mem_cons, List.not_mem_nil, implies_true, forall_const, WS, List.getElem_cons_zero, List.getElem_cons_succ, Option.isNone_some, Option.isNone_none, List.getD_cons_zero, List.getD_cons_succ, I.at, atL, atO, atP, evp, evs, retV, ↓reduceIte, Nat.reduceEqDiff, reduceCtorEq, AS, h4.Elen, ov.sl.EslcHi hle]
  exact ⟨B, sv, rfl, ov, fun b hb => (ov.blk b hb).2⟩
/-- Lists handed on. -/
structure Rlb (w : World) (s : Value) (hs : List Hd) (R : Nat → List (El 8)) : Prop where
  sl : Sl w s hs
  row : ∀ j (h : j < hs.length), Sl w (Cell.v hs[j]) (R j)
  len : ∀ j, j < hs.length → (R j).length ≤ 70368744175640
  num : hs.length ≤ 30
theorem Rlb.up {w w' : World} {s : Value} {hs : List Hd} {R : Nat → List (El 8)} (h : Rlb w s hs R) (hB : RowKit.Below w.heap.size w w') : Rlb w' s hs R := ⟨h.sl.up hB, fun i hi => (h.row i hi).up hB, h.len, h.num⟩
theorem culletlaw04_copies8_spec (w : World) (s : Value) (hin : List Hd) (R : Nat → List (El 8)) (h : Rlb w s hin R) :
    CallV Try.prog 67 [s] w fun v w' => RowKit.Below w.heap.size w w' ∧ ∃ hs, hs.length = hin.length ∧ Rg w.heap.size w'.heap.size w' v hs R := by
  have hnum := h.num
  refine run_culletlaw04_copies8 (by simp) ?_
  simp only [c_culletlaw04_copies8, WS, List.getElem_cons_zero, List.getElem_cons_succ, Option.isNone_some, Option.isNone_none, List.getD_cons_zero, List.getD_cons_succ, I.at, atL, atO, atP, evp, evs, retV, ↓reduceIte, Nat.reduceEqDiff, reduceCtorEq]
  simp (maxSteps := 1000000) (disch := omega) only [WS, List.getElem_cons_zero, List.getElem_cons_succ, Option.isNone_some, Option.isNone_none, List.getD_cons_zero, List.getD_cons_succ, I.at, atL, atO, atP, evp, evs, retV, ↓reduceIte, Nat.reduceEqDiff, reduceCtorEq, AS, h.sl.Xlen]
  refine X_mks (x := hdn) (by simp only [maxBytes]; omega) (by omega) fun out w1 oo hB1 => ?_
  have oob := oo.blk
  have B1s := hB1.size
  simp (maxSteps := 1000000) (disch := omega) only [WS, List.getElem_cons_zero, List.getElem_cons_succ, Option.isNone_some, Option.isNone_none, List.getD_cons_zero, List.getD_cons_succ, I.at, atL, atO, atP, evp, evs, retV, ↓reduceIte, Nat.reduceEqDiff, reduceCtorEq, AS]
  refine loop_of (fun t w' => t 0 = s ∧ t 3 = out ∧ RowKit.Below w.heap.size w w' ∧ w1.heap.size ≤ w'.heap.size ∧ ∃ (i : Nat) (G : List Hd) (E : List (Value × List (El 8))), t 4 = .int .i64 (i : Int) ∧ i ≤ hin.length ∧ Ow w.heap.size w' out G ∧ G.length = hin.length ∧ Lst w1.heap.size E w' ∧ E.length = i ∧ ∀ j, j < i → ∃ e, E[j]? = some (e, R j) ∧ Hj G j = e)
    (fun t _ => hin.length - (toI (t 4)).toNat) ⟨by simp only [WS, List.getElem_cons_zero, List.getElem_cons_succ, Option.isNone_some, Option.isNone_none, List.getD_cons_zero, List.getD_cons_succ, I.at, atL, atO, atP, evp, evs, retV, ↓reduceIte, Nat.reduceEqDiff, reduceCtorEq], by simp only [WS, List.getElem_cons_zero, List.getElem_cons_succ, Option.isNone_some, Option.isNone_none, List.getD_cons_zero, List.getD_cons_succ, I.at, atL, atO, atP, evp, evs, retV, ↓reduceIte, Nat.reduceEqDiff, reduceCtorEq], hB1, Nat.le_refl _, 0, _, [], rfl, by omega, oo, by simp, Lst.nil _ _, rfl, fun j hj => by omega⟩ ?_
  clear oo hB1
  rintro t w2 ⟨t0, t3, B, S, i, G, E, t4, hi, og, lG, hL, lE, hE⟩
  have h2 := h.up B
  by_cases hlt : i < hin.length
  · have iG : i < G.length := by omega
    have hlen := h.len i hlt
    obtain ⟨ob, hob, hoblt⟩ := og.sl.blk_lt (by rintro rfl; simp at lG; omega)
    have obw := (oob ob hob).1
    have hobl := (oob ob hob).2
    simp (maxSteps := 1000000) (disch := omega) only [WS, List.getElem_cons_zero, List.getElem_cons_succ, Option.isNone_some, Option.isNone_none, List.getD_cons_zero, List.getD_cons_succ, I.at, atL, atO, atP, evp, evs, retV, ↓reduceIte, Nat.reduceEqDiff, reduceCtorEq, AS, t0, t3, t4, h2.sl.Xlen]
    refine X_bsl (zs := ([] : List (El 8))) (by rfl) (by rfl) fun p w3 op hB => ?_
    have h3 := h2.up hB
    simp (maxSteps := 1000000) (disch := omega) only [WS, List.getElem_cons_zero, List.getElem_cons_succ, Option.isNone_some, Option.isNone_none, List.getD_cons_zero, List.getD_cons_succ, I.at, atL, atO, atP, evp, evs, retV, ↓reduceIte, Nat.reduceEqDiff, reduceCtorEq, AS, t0, t3, t4, h3.sl.Xix hlt, h3.sl.Xld hlt]
    refine op.Xapp2 (h3.row i hlt) hB.size (by simp only [List.length_nil, maxBytes]; omega) (by simp only [List.length_nil]; omega) fun q w4 oq hg => ?_
    rw [List.nil_append] at oq
    have D := hg.below hB hB.size fun b hb => (op.blk b hb).1
    clear hg op hB h3
    have og := og.up D
    have hL := hL.push D S oq
    have B := B.trans (D.mono B.size)
    have S := Nat.le_trans S D.size
    have hsub := oq.sl.hd.1
    simp (maxSteps := 1000000) (disch := omega) only [WS, List.getElem_cons_zero, List.getElem_cons_succ, Option.isNone_some, Option.isNone_none, List.getD_cons_zero, List.getD_cons_succ, I.at, atL, atO, atP, evp, evs, retV, ↓reduceIte, Nat.reduceEqDiff, reduceCtorEq, AS, t0, t3, t4, og.sl.Xix iG]
    rw [← hsub]
    refine og.Xst iG (hd q) fun w7 og7 hg7 => ?_
    rw [hob] at hg7
    simp (maxSteps := 1000000) (disch := omega) only [WS, List.getElem_cons_zero, List.getElem_cons_succ, Option.isNone_some, Option.isNone_none, List.getD_cons_zero, List.getD_cons_succ, I.at, atL, atO, atP, evp, evs, retV, ↓reduceIte, Nat.reduceEqDiff, reduceCtorEq, AS, t0, t3, t4]
    refine ⟨⟨B.grown hg7 B.size (fun b hb => by cases hb; exact obw), Nat.le_trans S hg7.size, i + 1, _, _, rfl, by omega, og7, by rw [List.length_set]; exact lG, hL.grown hobl hg7, by rw [List.length_append, lE]; rfl, fun j hj => ?_⟩, by omega⟩
    by_cases hji : j = i
    · subst hji
      refine ⟨q, by rw [List.getElem?_append_right (by omega), lE, Nat.sub_self]; rfl, ?_⟩
      rw [Hj_set iG, if_pos rfl, hsub]
    · obtain ⟨e, he1, he2⟩ := hE j (by omega)
      exact ⟨e, by rw [List.getElem?_append_left (by omega)]; exact he1, by rw [Hj_set iG, if_neg hji]; exact he2⟩
  · obtain rfl : i = hin.length := by omega
    simp (maxSteps := 1000000) (disch := omega) only [WS, List.getElem_cons_zero, List.getElem_cons_succ, Option.isNone_some, Option.isNone_none, List.getD_cons_zero, List.getD_cons_succ, I.at, atL, atO, atP, evp, evs, retV, ↓reduceIte, Nat.reduceEqDiff, reduceCtorEq, AS, t0, t3, t4, h2.sl.Xlen]
    exact ⟨B, G, lG, Rg.of og (fun b hb => (oob b hb).2) hL B1s lG hE⟩
theorem culletlaw04_alike8_spec (w : World) (s1 s2 : Value) (hs1 hs2 : List Hd) (R : Nat → List (El 8)) (h1 : Rlb w s1 hs1 R) (h2 : Rlb w s2 hs2 R) (hl : hs1.length = hs2.length) :
    CallV Try.prog 68 [s1, s2] w fun v w' => v = .bool true ∧ RowKit.Below w.heap.size w w' := by
  have dt : ∀ e : Int, decide (e = e) = true := fun e => decide_eq_true rfl
  have hnum := h1.num
  refine run_culletlaw04_alike8 (by simp) ?_
  simp only [c_culletlaw04_alike8, WS, List.getElem_cons_zero, List.getElem_cons_succ, Option.isNone_some, Option.isNone_none, List.getD_cons_zero, List.getD_cons_succ, I.at, atL, atO, atP, evp, evs, retV, ↓reduceIte, Nat.reduceEqDiff, reduceCtorEq]
  simp (maxSteps := 1000000) (disch := omega) only [WS, List.getElem_cons_zero, List.getElem_cons_succ, Option.isNone_some, Option.isNone_none, List.getD_cons_zero, List.getD_cons_succ, I.at, atL, atO, atP, evp, evs, retV, ↓reduceIte, Nat.reduceEqDiff, reduceCtorEq, AS, h1.sl.Xlen, h2.sl.Xlen, hl, dt]
  refine loop_of (fun t w' => t 0 = s1 ∧ t 1 = s2 ∧ RowKit.Below w.heap.size w w' ∧ ∃ i : Nat, t 5 = .int .i64 (i : Int) ∧ i ≤ hs1.length) (fun t _ => hs1.length - (toI (t 5)).toNat) ⟨by simp only [WS, List.getElem_cons_zero, List.getElem_cons_succ, Option.isNone_some, Option.isNone_none, List.getD_cons_zero, List.getD_cons_succ, I.at, atL, atO, atP, evp, evs, retV, ↓reduceIte, Nat.reduceEqDiff, reduceCtorEq], by simp only [WS, List.getElem_cons_zero, List.getElem_cons_succ, Option.isNone_some, Option.isNone_none, List.getD_cons_zero, List.getD_cons_succ, I.at, atL, atO, atP, evp, evs, retV, ↓reduceIte, Nat.reduceEqDiff, reduceCtorEq], RowKit.Below.refl _ _, 0, rfl, by omega⟩ ?_
  rintro t w' ⟨t0, t1, B, i, t5, hi⟩
  have g1 := h1.up B
  have g2 := h2.up B
  by_cases hlt : i < hs1.length
  · have hlt2 : i < hs2.length := by omega
    have hRi := h1.len i hlt
    have k1 := g1.sl.drew
    have k2 := g2.sl.drew
    have r1 := (g1.row i hlt).drew
    have r2 := (g2.row i hlt2).drew
    simp (maxSteps := 1000000) (disch := omega) only [WS, List.getElem_cons_zero, List.getElem_cons_succ, Option.isNone_some, Option.isNone_none, List.getD_cons_zero, List.getD_cons_succ, I.at, atL, atO, atP, evp, evs, retV, ↓reduceIte, Nat.reduceEqDiff, reduceCtorEq, AS, t0, t1, t5, g1.sl.Xlen]
    refine WP_dops ?_
    simp (maxSteps := 1000000) (disch := omega) only [ES, List.mem_cons, List.not_mem_nil, implies_true, forall_const, WS, List.getElem_cons_zero, List.getElem_cons_succ, Option.isNone_some, Option.isNone_none, List.getD_cons_zero, List.getD_cons_succ, I.at, atL, atO, atP, evp, evs, retV, ↓reduceIte, Nat.reduceEqDiff, reduceCtorEq, AS, t0, t1, t5, k1.Eix hlt, k1.Eld hlt, k2.Eix hlt2, k2.Eld hlt2, r1.Elen, r2.Elen, dt]
    refine loop_of (fun t w' => t 0 = s1 ∧ t 1 = s2 ∧ t 5 = .int .i64 (i : Int) ∧ RowKit.Below w.heap.size w w' ∧ ∃ j : Nat, t 6 = .int .i64 (j : Int) ∧ j ≤ (R i).length) (fun t _ => (R i).length - (toI (t 6)).toNat) ⟨by simp only [WS, List.getElem_cons_zero, List.getElem_cons_succ, Option.isNone_some, Option.isNone_none, List.getD_cons_zero, List.getD_cons_succ, I.at, atL, atO, atP, evp, evs, retV, ↓reduceIte, Nat.reduceEqDiff, reduceCtorEq]; exact t0, by simp only [WS, List.getElem_cons_zero, List.getElem_cons_succ, Option.isNone_some, Option.isNone_none, List.getD_cons_zero, List.getD_cons_succ, I.at, atL, atO, atP, evp, evs, retV, ↓reduceIte, Nat.reduceEqDiff, reduceCtorEq]; exact t1, by simp only [WS, List.getElem_cons_zero, List.getElem_cons_succ, Option.isNone_some, Option.isNone_none, List.getD_cons_zero, List.getD_cons_succ, I.at, atL, atO, atP, evp, evs, retV, ↓reduceIte, Nat.reduceEqDiff, reduceCtorEq]; exact t5, B.trans ((bel_drew w').mono B.size), 0, rfl, by omega⟩ ?_
    clear t0 t1 t5 B g1 g2 k1 k2 r1 r2
    rintro t w2 ⟨t0, t1, t5, B, j, t6, hj⟩
    have g1 := h1.up B
    have g2 := h2.up B
    by_cases hjl : j < (R i).length
    · have k1 := g1.sl.drew
      have k2 := g2.sl.drew
      have r1 := (g1.row i hlt).drew
      have r2 := (g2.row i hlt2).drew
      simp (maxSteps := 1000000) (disch := omega) only [WS, List.getElem_cons_zero, List.getElem_cons_succ, Option.isNone_some, Option.isNone_none, List.getD_cons_zero, List.getD_cons_succ, I.at, atL, atO, atP, evp, evs, retV, ↓reduceIte, Nat.reduceEqDiff, reduceCtorEq, AS, t0, t1, t5, t6, g1.sl.Xix hlt, g1.sl.Xld hlt, (g1.row i hlt).Xlen]
      refine WP_dops ?_
      simp (maxSteps := 1000000) (disch := omega) only [ES, List.mem_cons, List.not_mem_nil, implies_true, forall_const, WS, List.getElem_cons_zero, List.getElem_cons_succ, Option.isNone_some, Option.isNone_none, List.getD_cons_zero, List.getD_cons_succ, I.at, atL, atO, atP, evp, evs, retV, ↓reduceIte, Nat.reduceEqDiff, reduceCtorEq, AS, t0, t1, t5, t6, k1.Eix hlt, k1.Eld hlt, k2.Eix hlt2, k2.Eld hlt2, r1.Eix hjl, r1.Eld hjl, r2.Eix hjl, r2.Eld hjl, cell_e8, dt]
      exact ⟨⟨B.trans ((bel_drew w2).mono B.size), j + 1, rfl, by omega⟩, by omega⟩
    · simp (maxSteps := 1000000) (disch := omega) only [WS, List.getElem_cons_zero, List.getElem_cons_succ, Option.isNone_some, Option.isNone_none, List.getD_cons_zero, List.getD_cons_succ, I.at, atL, atO, atP, evp, evs, retV, ↓reduceIte, Nat.reduceEqDiff, reduceCtorEq, AS, t0, t1, t5, t6, g1.sl.Xix hlt, g1.sl.Xld hlt, (g1.row i hlt).Xlen]
      exact ⟨⟨B, i + 1, rfl, by omega⟩, by omega⟩
  · obtain rfl : i = hs1.length := by omega
    simp (maxSteps := 1000000) (disch := omega) only [WS, List.getElem_cons_zero, List.getElem_cons_succ, Option.isNone_some, Option.isNone_none, List.getD_cons_zero, List.getD_cons_succ, I.at, atL, atO, atP, evp, evs, retV, ↓reduceIte, Nat.reduceEqDiff, reduceCtorEq, AS, t0, t1, t5, g1.sl.Xlen]
    exact B
end Go.Proofs.Ytcdagkcchfibjaa.Fw
