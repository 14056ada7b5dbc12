import Derived.Test.YtbaljbadlfopgaaProg
import Derived.Test.YtbaljbadlfopgaaFwTW
import Derived.Test.YtbaljbadlfopgaaGfLW
import Derived.Test.YtbaljbadlfopgaaGfXW
import Derived.Test.YtbaljbadlfopgaaFwMpW
set_option linter.all false
set_option linter.unusedVariables false
set_option linter.unusedSimpArgs false
set_option maxRecDepth 100000
set_option maxHeartbeats 1000000
namespace Go.Proofs.Ytbaljbadlfopgaa.Fw
open Go Go.Fw Go.Proofs
attribute [local irreducible] stepI
end Go.Proofs.Ytbaljbadlfopgaa.Fw
namespace Go.Proofs.Ytbaljbadlfopgaa.Fw
open Go Go.Fw
theorem Inv_w.call {w : World} {v : Value} (h : Inv_w w v) (x : El 16) (hx : x ≠ 0) {K : Value → World → Prop} (hk : ∀ w', Like w w' → K (.tuple #[.int .u16 (x.inv.v.toNat : Int), .int .i64 0]) w') : callK Try.prog v [.int .u16 (x.v.toNat : Int)] w K := by
  obtain rfl := h
  refine (gf16_Inv_spec w x hx).mono ?_
  rintro _ _ ⟨rfl, rfl⟩
  exact hk _ (Like.refl _)
theorem Inv_b.call {w : World} {v : Value} (h : Inv_b w v) (x : El 8) (hx : x ≠ 0) {K : Value → World → Prop} (hk : ∀ w', Like w w' → K (.tuple #[.int .u8 (x.inv.v.toNat : Int), .int .i64 0]) w') : callK Try.prog v [.int .u8 (x.v.toNat : Int)] w K := by
  obtain ⟨p, rfl, ht⟩ := h
  refine (gf8_Tables_Inv_spec w p ht x hx).mono ?_
  rintro _ _ ⟨rfl, hl⟩
  exact hk _ hl
end Go.Proofs.Ytbaljbadlfopgaa.Fw

namespace Go.Proofs.Ytbaljbadlfopgaa.Fw
open Go Go.Fw
end Go.Proofs.Ytbaljbadlfopgaa.Fw

namespace Go.Proofs.Ytbaljbadlfopgaa.Fw
open Go Go.Fw
end Go.Proofs.Ytbaljbadlfopgaa.Fw

set_option linter.unusedVariables false
set_option linter.unusedSimpArgs false
set_option maxRecDepth 100000
set_option maxHeartbeats 1000000
namespace Go.Proofs.Ytbaljbadlfopgaa.Fw
open Go Go.Fw Go.Proofs
attribute [local irreducible] stepI
def c_polys_Ring_b_Eval : C := .seq (.ops [⟨0,some 6,none,.mov (.c (.int .u8 0)),[]⟩]) (.seq (.ops [⟨0,some 7,none,.mov (.c (.int .u8 0)),[]⟩]) (.seq (.seq (.ops [⟨0,some 9,none,.mov (.t 0),[]⟩,⟨1,some 10,none,.eqp false (.t 9) (.c (.pointer none)),[]⟩]) (.ite (.t 10) (.seq (.ops [⟨0,some 11,none,.mov (.t 7),[]⟩,⟨1,some 6,none,.mov (.t 11),[]⟩]) .ret) .skip)) (.seq (.seq (.ops [⟨0,some 12,none,.mov (.t 1),[]⟩,⟨1,some 13,none,.len (.t 12),[]⟩,⟨2,some 14,none,.bin .sub (.t 13) (.c (.int .i64 1)),[]⟩,⟨3,some 8,none,.mov (.t 14),[]⟩]) (.block 0 (.loop (.seq (.seq (.ops [⟨0,some 15,none,.mov (.t 8),[]⟩,⟨1,some 16,none,.bin .geq (.t 15) (.c (.int .i64 0)),[]⟩]) (.ite (.t 16) .skip (.exit 0))) (.seq (.block 1 (.dops [⟨0,some 19,none,.mov (.t 0),[]⟩,⟨1,some 20,none,.nil (.t 19),[]⟩,⟨2,some 21,none,.fad 0 (.t 20),[]⟩,⟨3,some 22,none,.ld (.t 21),[]⟩,⟨4,some 23,none,.mov (.t 7),[]⟩,⟨5,some 24,none,.mov (.t 2),[]⟩,⟨6,some 25,none,.call (.t 22) [.t 23,.t 24],[]⟩,⟨7,some 26,none,.mov (.t 1),[]⟩,⟨8,some 27,none,.mov (.t 8),[]⟩,⟨9,some 28,none,.ixs 1 (.t 26) (.t 27),[]⟩,⟨10,some 29,none,.ld (.t 28),[6]⟩,⟨11,some 30,none,.bin .xor (.t 25) (.t 29),[]⟩,⟨12,some 7,none,.mov (.t 30),[]⟩])) (.ops [⟨0,some 17,none,.mov (.t 8),[]⟩,⟨1,some 18,none,.bin .sub (.t 17) (.c (.int .i64 1)),[]⟩,⟨2,some 8,none,.mov (.t 18),[]⟩])))))) (.seq (.ops [⟨0,some 31,none,.mov (.t 7),[]⟩,⟨1,some 6,none,.mov (.t 31),[]⟩]) .ret))))
attribute [irreducible] c_polys_Ring_b_Eval
theorem run_polys_Ring_b_Eval {args : List Value} {w : World} {K : Value → World → Prop} (hn : args.length ≤ 32) (h : WP Try.prog c_polys_Ring_b_Eval (endQ [.t 6] K) (initT args) w) : CallV Try.prog 59 args w K :=
  call_of follows Try.func59 (by kernel_rfl) (by kernel_rfl) hn h
def c_polys_Ring_b_refuses : C := .seq (.ops [⟨0,some 4,none,.mov (.c (.int .i64 0)),[]⟩]) (.seq (.seq (.ops [⟨0,some 7,none,.mov (.t 0),[]⟩,⟨1,some 8,none,.eqp false (.t 7) (.c (.pointer none)),[]⟩]) (.ite (.t 8) (.seq (.ops [⟨0,some 4,none,.mov (.c (.int .i64 1)),[]⟩]) .ret) .skip)) (.seq (.seq (.ops [⟨0,some 9,none,.mov (.t 1),[]⟩,⟨1,some 10,none,.len (.t 9),[]⟩,⟨2,some 11,none,.mov (.c (.int .i64 0)),[]⟩]) (.block 0 (.loop (.seq (.ops [⟨0,some 12,none,.bin .lss (.t 11) (.t 10),[]⟩]) (.seq (.ite (.t 12) .skip (.exit 0)) (.seq (.block 1 (.seq (.ops [⟨0,some 13,none,.ixs 1 (.t 9) (.t 11),[]⟩,⟨1,some 14,none,.ld (.t 13),[]⟩,⟨2,some 6,none,.mov (.t 14),[]⟩]) (.seq (.ops [⟨0,some 15,none,.mov (.t 6),[]⟩,⟨1,some 16,none,.len (.t 15),[]⟩,⟨2,some 17,none,.bin .gtr (.t 16) (.c (.int .i64 1024)),[]⟩]) (.ite (.t 17) (.seq (.ops [⟨0,some 4,none,.mov (.c (.int .i64 5)),[]⟩]) .ret) .skip)))) (.ops [⟨0,some 18,none,.bin .add (.t 11) (.c (.int .i64 1)),[]⟩,⟨1,some 11,none,.mov (.t 18),[]⟩]))))))) (.seq (.ops [⟨0,some 4,none,.mov (.c (.int .i64 0)),[]⟩]) .ret)))
attribute [irreducible] c_polys_Ring_b_refuses
theorem run_polys_Ring_b_refuses {args : List Value} {w : World} {K : Value → World → Prop} (hn : args.length ≤ 19) (h : WP Try.prog c_polys_Ring_b_refuses (endQ [.t 4] K) (initT args) w) : CallV Try.prog 87 args w K :=
  call_of follows Try.func87 (by kernel_rfl) (by kernel_rfl) hn h
def c_polys_Ring_b_Vanishing : C := .seq (.ops [⟨0,some 4,none,.mov (.c (.slice none 0 0)),[]⟩,⟨1,some 5,none,.mov (.c (.int .i64 0)),[]⟩]) (.seq (.seq (.ops [⟨0,some 7,none,.mov (.t 0),[]⟩,⟨1,some 8,none,.mov (.t 1),[]⟩,⟨2,some 9,none,.bsl 25 1 [.slice none 0 0] [(0,(1,.t 8))],[]⟩,⟨3,some 10,none,.call (.c (.func (.func 87) #[] #[])) [.t 7,.t 9],[]⟩,⟨4,some 6,none,.mov (.t 10),[]⟩]) (.seq (.ops [⟨0,some 11,none,.mov (.t 6),[]⟩,⟨1,some 12,none,.bin .neq (.t 11) (.c (.int .i64 0)),[]⟩]) (.ite (.t 12) (.seq (.ops [⟨0,some 13,none,.mov (.t 6),[]⟩,⟨1,some 4,none,.mov (.c (.slice none 0 0)),[]⟩,⟨2,some 5,none,.mov (.t 13),[]⟩]) .ret) .skip))) (.seq (.ops [⟨0,some 14,none,.mov (.t 0),[]⟩,⟨1,some 15,none,.mov (.t 1),[]⟩,⟨2,some 16,none,.call (.c (.func (.func 126) #[] #[])) [.t 14,.t 15],[]⟩,⟨3,some 4,none,.mov (.t 16),[]⟩,⟨4,some 5,none,.mov (.c (.int .i64 0)),[]⟩]) .ret))
attribute [irreducible] c_polys_Ring_b_Vanishing
theorem run_polys_Ring_b_Vanishing {args : List Value} {w : World} {K : Value → World → Prop} (hn : args.length ≤ 17) (h : WP Try.prog c_polys_Ring_b_Vanishing (endQ [.t 4, .t 5] K) (initT args) w) : CallV Try.prog 89 args w K :=
  call_of follows Try.func89 (by kernel_rfl) (by kernel_rfl) hn h
def c_polys_copied_b : C := .seq (.ops [⟨0,some 2,none,.mov (.c (.slice none 0 0)),[]⟩]) (.seq (.ops [⟨0,some 3,none,.mov (.t 0),[]⟩,⟨1,some 4,none,.mov (.t 0),[]⟩,⟨2,some 5,none,.call (.c (.func (.func 130) #[] #[])) [.t 4],[]⟩,⟨3,some 6,none,.bin .add (.t 5) (.c (.int .i64 1)),[]⟩,⟨4,some 7,none,.slc 1 (.t 3) none (some (.t 6)) none,[]⟩,⟨5,some 8,none,.app 5 1 [.int .u8 0] (.c (.slice none 0 0)) (.t 7),[]⟩,⟨6,some 2,none,.mov (.t 8),[]⟩]) .ret)
attribute [irreducible] c_polys_copied_b
theorem run_polys_copied_b {args : List Value} {w : World} {K : Value → World → Prop} (hn : args.length ≤ 9) (h : WP Try.prog c_polys_copied_b (endQ [.t 2] K) (initT args) w) : CallV Try.prog 125 args w K :=
  call_of follows Try.func125 (by kernel_rfl) (by kernel_rfl) hn h
def c_polys_Ring_b_vanishing : C := .seq (.ops [⟨0,some 4,none,.mov (.c (.slice none 0 0)),[]⟩]) (.seq (.ops [⟨0,some 9,none,.bsl 5 1 [.int .u8 0] [(0,(1,.c (.int .u8 1)))],[]⟩,⟨1,some 5,none,.mov (.t 9),[]⟩]) (.seq (.seq (.ops [⟨0,some 10,none,.mov (.t 1),[]⟩,⟨1,some 11,none,.len (.t 10),[]⟩,⟨2,some 12,none,.mov (.c (.int .i64 0)),[]⟩]) (.block 0 (.loop (.seq (.ops [⟨0,some 13,none,.bin .lss (.t 12) (.t 11),[]⟩]) (.seq (.ite (.t 13) .skip (.exit 0)) (.seq (.block 1 (.seq (.ops [⟨0,some 14,none,.ixs 1 (.t 10) (.t 12),[]⟩,⟨1,some 15,none,.ld (.t 14),[]⟩,⟨2,some 7,none,.mov (.t 15),[]⟩]) (.seq (.ops [⟨0,some 16,none,.mov (.t 5),[]⟩,⟨1,some 17,none,.bsl 5 1 [.int .u8 0] [(0,(1,.c (.int .u8 0)))],[]⟩,⟨2,some 18,none,.app 5 1 [.int .u8 0] (.t 16) (.t 17),[]⟩,⟨3,some 5,none,.mov (.t 18),[]⟩]) (.seq (.seq (.ops [⟨0,some 19,none,.mov (.t 5),[]⟩,⟨1,some 20,none,.len (.t 19),[]⟩,⟨2,some 21,none,.bin .sub (.t 20) (.c (.int .i64 1)),[]⟩,⟨3,some 8,none,.mov (.t 21),[]⟩]) (.block 2 (.loop (.seq (.seq (.ops [⟨0,some 22,none,.mov (.t 8),[]⟩,⟨1,some 23,none,.bin .gtr (.t 22) (.c (.int .i64 0)),[]⟩]) (.ite (.t 23) .skip (.exit 2))) (.seq (.block 3 (.dops [⟨0,some 26,none,.mov (.t 5),[]⟩,⟨1,some 27,none,.mov (.t 8),[]⟩,⟨2,some 28,none,.mov (.t 5),[]⟩,⟨3,some 29,none,.mov (.t 8),[]⟩,⟨4,some 30,none,.bin .sub (.t 29) (.c (.int .i64 1)),[]⟩,⟨5,some 31,none,.ixs 1 (.t 28) (.t 30),[]⟩,⟨6,some 32,none,.ld (.t 31),[]⟩,⟨7,some 33,none,.mov (.t 0),[]⟩,⟨8,some 34,none,.nil (.t 33),[]⟩,⟨9,some 35,none,.fad 0 (.t 34),[]⟩,⟨10,some 36,none,.ld (.t 35),[]⟩,⟨11,some 37,none,.mov (.t 5),[]⟩,⟨12,some 38,none,.mov (.t 8),[]⟩,⟨13,some 39,none,.ixs 1 (.t 37) (.t 38),[]⟩,⟨14,some 40,none,.ld (.t 39),[]⟩,⟨15,some 41,none,.mov (.t 7),[]⟩,⟨16,some 42,none,.call (.t 36) [.t 40,.t 41],[6]⟩,⟨17,some 43,none,.bin .xor (.t 32) (.t 42),[]⟩,⟨18,some 44,none,.ixs 1 (.t 26) (.t 27),[]⟩,⟨19,none,none,.st (.t 44) (.t 43),[]⟩])) (.ops [⟨0,some 24,none,.mov (.t 8),[]⟩,⟨1,some 25,none,.bin .sub (.t 24) (.c (.int .i64 1)),[]⟩,⟨2,some 8,none,.mov (.t 25),[]⟩])))))) (.dops [⟨0,some 45,none,.mov (.t 5),[]⟩,⟨1,some 46,none,.mov (.t 0),[]⟩,⟨2,some 47,none,.nil (.t 46),[]⟩,⟨3,some 48,none,.fad 0 (.t 47),[]⟩,⟨4,some 49,none,.ld (.t 48),[]⟩,⟨5,some 50,none,.mov (.t 5),[]⟩,⟨6,some 51,none,.ixs 1 (.t 50) (.c (.int .i64 0)),[]⟩,⟨7,some 52,none,.ld (.t 51),[]⟩,⟨8,some 53,none,.mov (.t 7),[]⟩,⟨9,some 54,none,.call (.t 49) [.t 52,.t 53],[]⟩,⟨10,some 55,none,.ixs 1 (.t 45) (.c (.int .i64 0)),[]⟩,⟨11,none,none,.st (.t 55) (.t 54),[]⟩]))))) (.ops [⟨0,some 56,none,.bin .add (.t 12) (.c (.int .i64 1)),[]⟩,⟨1,some 12,none,.mov (.t 56),[]⟩]))))))) (.seq (.ops [⟨0,some 57,none,.mov (.t 5),[]⟩,⟨1,some 4,none,.mov (.t 57),[]⟩]) .ret)))
attribute [irreducible] c_polys_Ring_b_vanishing
theorem run_polys_Ring_b_vanishing {args : List Value} {w : World} {K : Value → World → Prop} (hn : args.length ≤ 58) (h : WP Try.prog c_polys_Ring_b_vanishing (endQ [.t 4] K) (initT args) w) : CallV Try.prog 126 args w K :=
  call_of follows Try.func126 (by kernel_rfl) (by kernel_rfl) hn h
def c_polys_added_b : C := .seq (.ops [⟨0,some 4,none,.mov (.c (.slice none 0 0)),[]⟩]) (.seq (.seq (.ops [⟨0,some 8,none,.mov (.t 0),[]⟩,⟨1,some 9,none,.len (.t 8),[]⟩,⟨2,some 10,none,.mov (.t 1),[]⟩,⟨3,some 11,none,.len (.t 10),[]⟩,⟨4,some 12,none,.bin .lss (.t 9) (.t 11),[]⟩]) (.ite (.t 12) (.ops [⟨0,some 13,none,.mov (.t 1),[]⟩,⟨1,some 14,none,.mov (.t 0),[]⟩,⟨2,some 0,none,.mov (.t 13),[]⟩,⟨3,some 1,none,.mov (.t 14),[]⟩]) .skip)) (.seq (.ops [⟨0,some 15,none,.mov (.t 0),[]⟩,⟨1,some 16,none,.app 5 1 [.int .u8 0] (.c (.slice none 0 0)) (.t 15),[]⟩,⟨2,some 5,none,.mov (.t 16),[]⟩]) (.seq (.seq (.ops [⟨0,some 17,none,.mov (.t 1),[]⟩,⟨1,some 18,none,.len (.t 17),[]⟩,⟨2,some 19,none,.mov (.c (.int .i64 0)),[]⟩]) (.block 0 (.loop (.seq (.ops [⟨0,some 20,none,.bin .lss (.t 19) (.t 18),[]⟩]) (.seq (.ite (.t 20) .skip (.exit 0)) (.seq (.block 1 (.seq (.ops [⟨0,some 21,none,.mov (.t 19),[]⟩,⟨1,some 22,none,.ixs 1 (.t 17) (.t 19),[]⟩,⟨2,some 23,none,.ld (.t 22),[]⟩,⟨3,some 6,none,.mov (.t 21),[]⟩,⟨4,some 7,none,.mov (.t 23),[]⟩]) (.ops [⟨0,some 24,none,.mov (.t 5),[]⟩,⟨1,some 25,none,.mov (.t 6),[]⟩,⟨2,some 26,none,.ixs 1 (.t 24) (.t 25),[]⟩,⟨3,some 27,none,.ld (.t 26),[]⟩,⟨4,some 28,none,.mov (.t 7),[]⟩,⟨5,some 29,none,.bin .xor (.t 27) (.t 28),[]⟩,⟨6,some 30,none,.ixs 1 (.t 24) (.t 25),[]⟩,⟨7,none,none,.st (.t 30) (.t 29),[]⟩]))) (.ops [⟨0,some 31,none,.bin .add (.t 19) (.c (.int .i64 1)),[]⟩,⟨1,some 19,none,.mov (.t 31),[]⟩]))))))) (.seq (.ops [⟨0,some 32,none,.mov (.t 5),[]⟩,⟨1,some 33,none,.mov (.t 5),[]⟩,⟨2,some 34,none,.call (.c (.func (.func 130) #[] #[])) [.t 33],[]⟩,⟨3,some 35,none,.bin .add (.t 34) (.c (.int .i64 1)),[]⟩,⟨4,some 36,none,.slc 1 (.t 32) none (some (.t 35)) none,[]⟩,⟨5,some 4,none,.mov (.t 36),[]⟩]) .ret))))
attribute [irreducible] c_polys_added_b
theorem run_polys_added_b {args : List Value} {w : World} {K : Value → World → Prop} (hn : args.length ≤ 37) (h : WP Try.prog c_polys_added_b (endQ [.t 4] K) (initT args) w) : CallV Try.prog 128 args w K :=
  call_of follows Try.func128 (by kernel_rfl) (by kernel_rfl) hn h
def c_polys_Ring_b_product : C := .seq (.ops [⟨0,some 6,none,.mov (.c (.slice none 0 0)),[]⟩]) (.seq (.dops [⟨0,some 12,none,.mov (.t 1),[]⟩,⟨1,some 13,none,.mov (.t 1),[]⟩,⟨2,some 14,none,.call (.c (.func (.func 130) #[] #[])) [.t 13],[]⟩,⟨3,some 15,none,.bin .add (.t 14) (.c (.int .i64 1)),[]⟩,⟨4,some 16,none,.slc 1 (.t 12) none (some (.t 15)) none,[]⟩,⟨5,some 17,none,.mov (.t 2),[]⟩,⟨6,some 18,none,.mov (.t 2),[]⟩,⟨7,some 19,none,.call (.c (.func (.func 130) #[] #[])) [.t 18],[]⟩,⟨8,some 20,none,.bin .add (.t 19) (.c (.int .i64 1)),[]⟩,⟨9,some 21,none,.slc 1 (.t 17) none (some (.t 20)) none,[]⟩,⟨10,some 1,none,.mov (.t 16),[]⟩,⟨11,some 2,none,.mov (.t 21),[]⟩]) (.seq (.seq (.ops [⟨0,some 22,none,.mov (.t 1),[]⟩,⟨1,some 23,none,.len (.t 22),[]⟩,⟨2,some 24,none,.bin .eql (.t 23) (.c (.int .i64 0)),[]⟩,⟨3,some 25,none,.mov (.t 24),[]⟩,⟨4,some 26,(some (25,false)),.mov (.t 2),[]⟩,⟨5,some 27,(some (25,false)),.len (.t 26),[]⟩,⟨6,some 28,(some (25,false)),.bin .eql (.t 27) (.c (.int .i64 0)),[]⟩,⟨7,some 29,none,.pick (.t 25) (.c (.bool true)) (.t 28),[]⟩]) (.ite (.t 29) (.seq (.ops [⟨0,some 6,none,.mov (.c (.slice none 0 0)),[]⟩]) .ret) .skip)) (.seq (.ops [⟨0,some 30,none,.mov (.t 1),[]⟩,⟨1,some 31,none,.len (.t 30),[]⟩,⟨2,some 32,none,.mov (.t 2),[]⟩,⟨3,some 33,none,.len (.t 32),[]⟩,⟨4,some 34,none,.bin .add (.t 31) (.t 33),[]⟩,⟨5,some 35,none,.bin .sub (.t 34) (.c (.int .i64 1)),[]⟩,⟨6,some 36,none,.mks 5 1 [.int .u8 0] (.t 35) (.t 35),[]⟩,⟨7,some 7,none,.mov (.t 36),[]⟩]) (.seq (.seq (.ops [⟨0,some 37,none,.mov (.t 1),[]⟩,⟨1,some 38,none,.len (.t 37),[]⟩,⟨2,some 39,none,.mov (.c (.int .i64 0)),[]⟩]) (.block 0 (.loop (.seq (.ops [⟨0,some 40,none,.bin .lss (.t 39) (.t 38),[]⟩]) (.seq (.ite (.t 40) .skip (.exit 0)) (.seq (.block 1 (.seq (.ops [⟨0,some 41,none,.mov (.t 39),[]⟩,⟨1,some 42,none,.ixs 1 (.t 37) (.t 39),[]⟩,⟨2,some 43,none,.ld (.t 42),[]⟩,⟨3,some 8,none,.mov (.t 41),[]⟩,⟨4,some 9,none,.mov (.t 43),[]⟩]) (.seq (.seq (.ops [⟨0,some 44,none,.mov (.t 9),[]⟩,⟨1,some 45,none,.bin .eql (.t 44) (.c (.int .u8 0)),[]⟩]) (.ite (.t 45) (.exit 1) .skip)) (.seq (.ops [⟨0,some 46,none,.mov (.t 2),[]⟩,⟨1,some 47,none,.len (.t 46),[]⟩,⟨2,some 48,none,.mov (.c (.int .i64 0)),[]⟩]) (.block 2 (.loop (.seq (.ops [⟨0,some 49,none,.bin .lss (.t 48) (.t 47),[]⟩]) (.seq (.ite (.t 49) .skip (.exit 2)) (.seq (.block 3 (.seq (.ops [⟨0,some 50,none,.mov (.t 48),[]⟩,⟨1,some 51,none,.ixs 1 (.t 46) (.t 48),[]⟩,⟨2,some 52,none,.ld (.t 51),[]⟩,⟨3,some 10,none,.mov (.t 50),[]⟩,⟨4,some 11,none,.mov (.t 52),[]⟩]) (.dops [⟨0,some 53,none,.mov (.t 7),[]⟩,⟨1,some 54,none,.mov (.t 8),[]⟩,⟨2,some 55,none,.mov (.t 10),[]⟩,⟨3,some 56,none,.bin .add (.t 54) (.t 55),[]⟩,⟨4,some 57,none,.ixs 1 (.t 53) (.t 56),[]⟩,⟨5,some 58,none,.ld (.t 57),[]⟩,⟨6,some 59,none,.mov (.t 0),[]⟩,⟨7,some 60,none,.nil (.t 59),[]⟩,⟨8,some 61,none,.fad 0 (.t 60),[]⟩,⟨9,some 62,none,.ld (.t 61),[]⟩,⟨10,some 63,none,.mov (.t 9),[]⟩,⟨11,some 64,none,.mov (.t 11),[]⟩,⟨12,some 65,none,.call (.t 62) [.t 63,.t 64],[5]⟩,⟨13,some 66,none,.bin .xor (.t 58) (.t 65),[]⟩,⟨14,some 67,none,.ixs 1 (.t 53) (.t 56),[]⟩,⟨15,none,none,.st (.t 67) (.t 66),[]⟩]))) (.ops [⟨0,some 68,none,.bin .add (.t 48) (.c (.int .i64 1)),[]⟩,⟨1,some 48,none,.mov (.t 68),[]⟩])))))))))) (.ops [⟨0,some 69,none,.bin .add (.t 39) (.c (.int .i64 1)),[]⟩,⟨1,some 39,none,.mov (.t 69),[]⟩]))))))) (.seq (.ops [⟨0,some 70,none,.mov (.t 7),[]⟩,⟨1,some 6,none,.mov (.t 70),[]⟩]) .ret)))))
attribute [irreducible] c_polys_Ring_b_product
theorem run_polys_Ring_b_product {args : List Value} {w : World} {K : Value → World → Prop} (hn : args.length ≤ 71) (h : WP Try.prog c_polys_Ring_b_product (endQ [.t 6] K) (initT args) w) : CallV Try.prog 129 args w K :=
  call_of follows Try.func129 (by kernel_rfl) (by kernel_rfl) hn h
def c_polys_degree_b : C := .seq (.ops [⟨0,some 2,none,.mov (.c (.int .i64 0)),[]⟩]) (.seq (.ops [⟨0,some 4,none,.mov (.t 0),[]⟩,⟨1,some 5,none,.len (.t 4),[]⟩,⟨2,some 6,none,.bin .sub (.t 5) (.c (.int .i64 1)),[]⟩,⟨3,some 3,none,.mov (.t 6),[]⟩]) (.seq (.block 0 (.loop (.seq (.seq (.ops [⟨0,some 7,none,.mov (.t 3),[]⟩,⟨1,some 8,none,.bin .geq (.t 7) (.c (.int .i64 0)),[]⟩,⟨2,some 9,none,.mov (.t 8),[]⟩,⟨3,some 10,(some (9,true)),.mov (.t 0),[]⟩,⟨4,some 11,(some (9,true)),.mov (.t 3),[]⟩,⟨5,some 12,(some (9,true)),.ixs 1 (.t 10) (.t 11),[]⟩,⟨6,some 13,(some (9,true)),.ld (.t 12),[]⟩,⟨7,some 14,(some (9,true)),.bin .eql (.t 13) (.c (.int .u8 0)),[]⟩,⟨8,some 15,none,.pick (.t 9) (.t 14) (.c (.bool false)),[]⟩]) (.ite (.t 15) .skip (.exit 0))) (.block 1 (.ops [⟨0,some 16,none,.mov (.t 3),[]⟩,⟨1,some 17,none,.bin .sub (.t 16) (.c (.int .i64 1)),[]⟩,⟨2,some 3,none,.mov (.t 17),[]⟩]))))) (.seq (.ops [⟨0,some 18,none,.mov (.t 3),[]⟩,⟨1,some 2,none,.mov (.t 18),[]⟩]) .ret)))
attribute [irreducible] c_polys_degree_b
theorem run_polys_degree_b {args : List Value} {w : World} {K : Value → World → Prop} (hn : args.length ≤ 19) (h : WP Try.prog c_polys_degree_b (endQ [.t 2] K) (initT args) w) : CallV Try.prog 130 args w K :=
  call_of follows Try.func130 (by kernel_rfl) (by kernel_rfl) hn h
end Go.Proofs.Ytbaljbadlfopgaa.Fw
namespace Go.Proofs.Ytbaljbadlfopgaa.Fw
open Go Go.Fw
theorem polys_degree_b_spec (w : World) (s : Value) (l : List (El 8)) (h : Sl w s l) (hb : l.length ≤ 70368744175616) : CallV Try.prog 130 [s] w fun v w' => v = .int .i64 ((tln l : Int) - 1) ∧ w' = w := by
  refine run_polys_degree_b (by simp) ?_
  simp only [c_polys_degree_b, WS, ↓reduceIte, Nat.reduceEqDiff, reduceCtorEq, h.Xlen, wrap_id (show -9223372036854775808 ≤ (l.length : Int) - 1 by omega) (show (l.length : Int) - 1 < 9223372036854775808 by omega)]
  have hle := tln_le l
  refine loop_of (fun t w' => w' = w ∧ t 0 = s ∧ ∃ k : Nat, t 3 = .int .i64 ((k : Int) - 1) ∧ tln l ≤ k ∧ k ≤ l.length) (fun t _ => (toI (t 3) + 1).toNat) ⟨rfl, rfl, l.length, rfl, hle, Nat.le_refl _⟩ ?_
  rintro t w' ⟨rfl, h0, k, h3, hk1, hk2⟩
  rcases Nat.eq_zero_or_pos k with rfl | hp
  · have : tln l = 0 := by omega
    simp only [WS, ↓reduceIte, Nat.reduceEqDiff, reduceCtorEq, h0, h3, show decide ((0 : Int) ≤ ((0 : Nat) : Int) - 1) = false from rfl, this]
  · obtain ⟨k, rfl⟩ : ∃ j, k = j + 1 := ⟨k - 1, by omega⟩
    have e1 : ((k + 1 : Nat) : Int) - 1 = (k : Int) := by omega
    rw [e1] at h3
    have hkl : k < l.length := by omega
    by_cases hz : l[k] = 0
    · have d1 : decide (((l[k]).v.toNat : Int) = 0) = true := decide_eq_true ((el_zero _).mpr hz)
      simp only [WS, ↓reduceIte, Nat.reduceEqDiff, reduceCtorEq, h0, h3, show decide ((0 : Int) ≤ (k : Int)) = true by simp, h.Xix hkl, h.Xld hkl, cell_e8, d1, wrap_id (show -9223372036854775808 ≤ (k : Int) - 1 by omega) (show (k : Int) - 1 < 9223372036854775808 by omega), toI_int]
      refine ⟨⟨k, rfl, ?_, by omega⟩, by omega⟩
      rcases Nat.lt_or_ge k (tln l) with h1 | h1
      · exfalso
        refine tln_top l k (by omega) ?_
        rw [co_get l hkl]; exact hz
      · exact h1
    · have d1 : decide (((l[k]).v.toNat : Int) = 0) = false := decide_eq_false (fun e => hz ((el_zero _).mp e))
      have : tln l = k + 1 := by
        rcases Nat.lt_or_ge (tln l) (k + 1) with h1 | h1
        · exfalso
          have := tln_dg l k (by omega)
          rw [co_get l hkl] at this
          exact hz this
        · omega
      simp only [WS, ↓reduceIte, Nat.reduceEqDiff, reduceCtorEq, h0, h3, show decide ((0 : Int) ≤ (k : Int)) = true by simp, h.Xix hkl, h.Xld hkl, cell_e8, d1, this]
      simp only [WS, ↓reduceIte, Nat.reduceEqDiff, reduceCtorEq, e1]
theorem polys_copied_b_spec (w : World) (s : Value) (l : List (El 8)) (h : Sl w s l) (hb : l.length ≤ 70368744175616) :
    CallV Try.prog 125 [s] w fun v w' => Ow w.heap.size w' v (tr l) ∧ RowKit.Below w.heap.size w w' := by
  refine run_polys_copied_b (by simp) ?_
  have hle := tln_le l
  simp only [c_polys_copied_b, WS, ↓reduceIte, Nat.reduceEqDiff, reduceCtorEq]
  refine X_call0 ((polys_degree_b_spec w s l h hb).mono ?_)
  rintro v w' ⟨rfl, rfl⟩
  have e1 : IntKind.i64.wrap ((tln l : Int) - 1 + 1) = (tln l : Int) := by rw [wrap_id (by omega) (by omega)]; omega
  have hs := h.sub (show 0 ≤ tln l by omega) hle
  simp only [WS, ↓reduceIte, Nat.reduceEqDiff, reduceCtorEq, e1, h.XslcHi hle]
  refine Ow.Xapp (Ow.nil w'.heap.size w') hs (Nat.le_refl _) ?_ ?_ fun s' w2 ho hg _ => ?_
  · simp [maxBytes]; omega
  · simp; omega
  simp only [WS, ↓reduceIte, Nat.reduceEqDiff, reduceCtorEq]
  refine ⟨by simpa [tr] using ho, (RowKit.Below.refl _ _).grown hg (Nat.le_refl _) (fun b hb => by simp [Fw.blk, Value.ownBlock] at hb)⟩
theorem polys_added_b_spec (w : World) (s1 s2 : Value) (l1 l2 : List (El 8)) (h1 : Sl w s1 l1) (h2 : Sl w s2 l2) (hb1 : l1.length ≤ 70368744175616) (hb2 : l2.length ≤ 70368744175616) :
    CallV Try.prog 128 [s1, s2] w fun v w' => ∃ l, Ow w.heap.size w' v l ∧ tr l = l ∧ co l = co l1 + co l2 ∧ l.length ≤ max l1.length l2.length ∧ RowKit.Below w.heap.size w w' := by
  refine run_polys_added_b (by simp) ?_
  simp only [c_polys_added_b, WS, ↓reduceIte, Nat.reduceEqDiff, reduceCtorEq, h1.Xlen, h2.Xlen]
  refine iteW_cut (fun t w' => w' = w ∧ ∃ a b la lb, t 0 = a ∧ t 1 = b ∧ Sl w a la ∧ Sl w b lb ∧ lb.length ≤ la.length ∧ co la + co lb = co l1 + co l2 ∧ la.length ≤ max l1.length l2.length) ?_ ?_
  · by_cases hlt : l1.length < l2.length
    · simp only [WS, ↓reduceIte, Nat.reduceEqDiff, reduceCtorEq, show decide ((l1.length : Int) < (l2.length : Int)) = true from decide_eq_true (by omega)]
      exact ⟨_, _, _, _, rfl, rfl, h2, h1, by omega, Ps.add_comm _ _, by omega⟩
    · simp only [WS, ↓reduceIte, Nat.reduceEqDiff, reduceCtorEq, show decide ((l1.length : Int) < (l2.length : Int)) = false from decide_eq_false (by omega)]
      exact ⟨_, _, _, _, rfl, rfl, h1, h2, by omega, rfl, by omega⟩
  rintro t w' ⟨rfl, a, b, la, lb, ta, tb, ha, hb, hlen, hsum, hmax⟩
  simp only [WS, ↓reduceIte, Nat.reduceEqDiff, reduceCtorEq, ta, tb]
  refine Ow.Xapp (Ow.nil w'.heap.size w') ha (Nat.le_refl _) ?_ ?_ fun s' w2 ho hg _ => ?_
  · simp [maxBytes]; omega
  · simp; omega
  rw [List.nil_append] at ho
  have hB : RowKit.Below w'.heap.size w' w2 := (RowKit.Below.refl _ _).grown hg (Nat.le_refl _) (fun b hb => by simp [Fw.blk, Value.ownBlock] at hb)
  simp only [WS, ↓reduceIte, Nat.reduceEqDiff, reduceCtorEq, ta, tb, hb.Xlen]
  refine loop_of (fun t w => t 5 = s' ∧ t 17 = b ∧ t 18 = .int .i64 (lb.length : Int) ∧ RowKit.Below w'.heap.size w' w ∧ ∃ (i : Nat) (ls : List (El 8)), t 19 = .int .i64 (i : Int) ∧ i ≤ lb.length ∧ Ow w'.heap.size w s' ls ∧ ls.length = la.length ∧ ∀ k, (co ls).c k = (co la).c k + (if k < i then (co lb).c k else 0))
    (fun t _ => lb.length - (toI (t 19)).toNat) ⟨rfl, rfl, rfl, hB, 0, la, rfl, by omega, ho, rfl, fun k => (El.add_zero _).symm⟩ ?_
  rintro t w ⟨t5, t17, t18, hB, i, ls, t19, hi, ho, hll, hc⟩
  by_cases hlt : i < lb.length
  · have hb' := hb.up hB
    simp only [WS, ↓reduceIte, Nat.reduceEqDiff, reduceCtorEq, t5, t17, t18, t19, show decide ((i : Int) < (lb.length : Int)) = true from decide_eq_true (by omega), hb'.Xix hlt, hb'.Xld hlt, ho.sl.Xix (show i < ls.length by omega), ho.sl.Xld (show i < ls.length by omega), cell_e8, xor8]
    refine Ow.Xst ho (show i < ls.length by omega) (ls[i] + lb[i]) fun w3 ho3 hg3 => ?_
    simp only [WS, ↓reduceIte, Nat.reduceEqDiff, reduceCtorEq, t5, t17, t18, t19, wrap_id (show -9223372036854775808 ≤ (i : Int) + 1 by omega) (show (i : Int) + 1 < 9223372036854775808 by omega), toI_int]
    refine ⟨⟨hB.grown hg3 hB.size fun b hb => (ho.blk b hb).1, i + 1, _, rfl, by omega, ho3, by simp [hll], fun k => ?_⟩, by omega⟩
    by_cases hk : k = i
    · subst hk
      rw [co_get _ (by simp; omega), List.getElem_set_self, if_pos (by omega), co_get lb hlt]
      have := hc k
      rw [if_neg (by omega), El.add_zero, co_get ls (by omega)] at this
      rw [this]
    · have e1 : (co (ls.set i (ls[i] + lb[i]))).c k = (co ls).c k := by
        show (ls.set i _).getD k 0 = ls.getD k 0
        rw [List.getD_eq_getElem?_getD, List.getElem?_set_ne (by omega), List.getD_eq_getElem?_getD]
      rw [e1, hc k]
      have : (k < i + 1) = (k < i) := propext ⟨fun h => by omega, fun h => by omega⟩
      simp only [this]
  · have hco : co ls = co l1 + co l2 := by
      rw [← hsum]
      refine Ps.ext fun k => ?_
      rw [hc k, Ps.add_c]
      by_cases hk : k < i
      · rw [if_pos hk]
      · rw [if_neg hk, co_dg lb k (by omega)]
    simp only [WS, ↓reduceIte, Nat.reduceEqDiff, reduceCtorEq, t5, t17, t18, t19, show decide ((i : Int) < (lb.length : Int)) = false from decide_eq_false (by omega)]
    refine X_call0 ((polys_degree_b_spec w s' ls ho.sl (by omega)).mono ?_)
    rintro v w3 ⟨rfl, rfl⟩
    have hle := tln_le ls
    have e1 : IntKind.i64.wrap ((tln ls : Int) - 1 + 1) = (tln ls : Int) := by rw [wrap_id (by omega) (by omega)]; omega
    simp only [WS, ↓reduceIte, Nat.reduceEqDiff, reduceCtorEq, e1, ho.sl.XslcHi hle]
    refine ⟨_, ho.sub0 hle, ?_, ?_, ?_, hB⟩
    · exact tr_tr ls
    · rw [← hco]; exact tr_co ls
    · have := tr_len ls
      show (tr ls).length ≤ _
      omega
end Go.Proofs.Ytbaljbadlfopgaa.Fw

namespace Go.Proofs.Ytbaljbadlfopgaa.Fw
open Go Go.Fw
theorem polys_Ring_b_product_spec (w : World) (r s1 s2 : Value) (l1 l2 : List (El 8)) (hr : Ring_b w r) (h1 : Sl w s1 l1) (h2 : Sl w s2 l2) (hb1 : l1.length ≤ 70368744175616) (hb2 : l2.length ≤ 70368744175616) :
    CallV Try.prog 129 [r, s1, s2] w fun v w' => ∃ l, Ow w.heap.size w' v l ∧ tr l = l ∧ co l = co l1 * co l2 ∧ l.length ≤ l1.length + l2.length ∧ RowKit.Below w.heap.size w w' := by
  have hle1 := tln_le l1
  have hle2 := tln_le l2
  refine run_polys_Ring_b_product (by simp) ?_
  simp only [c_polys_Ring_b_product, WS, ↓reduceIte, Nat.reduceEqDiff, reduceCtorEq]
  refine WP_dops ?_
  simp only [ES, List.mem_cons, List.not_mem_nil, implies_true, forall_const, WS, ↓reduceIte, Nat.reduceEqDiff, reduceCtorEq]
  refine E_call0 ((polys_degree_b_spec w.drew s1 l1 h1.drew hb1).mono ?_)
  rintro v w' ⟨rfl, rfl⟩
  have e1 : IntKind.i64.wrap ((tln l1 : Int) - 1 + 1) = (tln l1 : Int) := by rw [wrap_id (by omega) (by omega)]; omega
  have e2 : IntKind.i64.wrap ((tln l2 : Int) - 1 + 1) = (tln l2 : Int) := by rw [wrap_id (by omega) (by omega)]; omega
  simp only [ES, List.mem_cons, List.not_mem_nil, implies_true, forall_const, WS, ↓reduceIte, Nat.reduceEqDiff, reduceCtorEq, e1, h1.drew.EslcHi hle1]
  refine E_call0 ((polys_degree_b_spec w.drew s2 l2 h2.drew hb2).mono ?_)
  rintro v w' ⟨rfl, rfl⟩
  have g1 : Sl w.drew (Fw.sub s1 0 (tln l1)) (tr l1) := h1.drew.sub (Nat.zero_le _) hle1
  have g2 : Sl w.drew (Fw.sub s2 0 (tln l2)) (tr l2) := h2.drew.sub (Nat.zero_le _) hle2
  simp only [ES, List.mem_cons, List.not_mem_nil, implies_true, forall_const, WS, ↓reduceIte, Nat.reduceEqDiff, reduceCtorEq, e2, h2.drew.EslcHi hle2, g1.Xlen, g2.Xlen, tr_len]
  by_cases hz : tln l1 = 0 ∨ tln l2 = 0
  · have hco : (0 : Ps 8) = co l1 * co l2 := by
      rcases hz with hz | hz
      · rw [co_zero_of_tln hz, Ps.zero_mul]
      · rw [co_zero_of_tln hz, Ps.mul_zero]
    have fin : ∃ l : List (El 8), Ow w.heap.size w.drew (.slice none 0 0) l ∧ tr l = l ∧ co l = co l1 * co l2 ∧ l.length ≤ l1.length + l2.length ∧ RowKit.Below w.heap.size w w.drew :=
      ⟨[], Ow.nil _ _, rfl, hco, by simp, bel_drew w⟩
    by_cases hz1 : tln l1 = 0
    · simp only [WS, ↓reduceIte, Nat.reduceEqDiff, reduceCtorEq, hz1, show decide (((0 : Nat) : Int) = 0) = true from rfl]
      exact fin
    · have hz2 : tln l2 = 0 := by omega
      simp only [WS, ↓reduceIte, Nat.reduceEqDiff, reduceCtorEq, hz2, show decide ((tln l1 : Int) = 0) = false from decide_eq_false (by omega), show decide (((0 : Nat) : Int) = 0) = true from rfl]
      exact fin
  have n1 : 0 < tln l1 := by omega
  have n2 : 0 < tln l2 := by omega
  have e3 : IntKind.i64.wrap ((tln l1 : Int) + (tln l2 : Int)) = ((tln l1 + tln l2 : Nat) : Int) := by rw [wrap_id (by omega) (by omega)]; omega
  have e4 : IntKind.i64.wrap (((tln l1 + tln l2 : Nat) : Int) - 1) = ((tln l1 + tln l2 - 1 : Nat) : Int) := by rw [wrap_id (by omega) (by omega)]; omega
  simp only [WS, ↓reduceIte, Nat.reduceEqDiff, reduceCtorEq, show decide ((tln l1 : Int) = 0) = false from decide_eq_false (by omega), show decide ((tln l2 : Int) = 0) = false from decide_eq_false (by omega), g1.Xlen, g2.Xlen, tr_len, e3, e4]
  refine X_mks (x := (0 : El 8)) ?_ ?_ fun p w1 ho hB => ?_
  · simp only [maxBytes]; omega
  · omega
  simp only [WS, ↓reduceIte, Nat.reduceEqDiff, reduceCtorEq, g1.Xlen, tr_len]
  have hB : RowKit.Below w.heap.size w w1 := (bel_drew w).trans hB
  obtain ⟨b, mv, iv, rfl, hrow, hm, -⟩ := id hr
  have h0b : b < w.heap.size := row_lt hrow
  refine loop_of (fun t w2 => t 0 = .pointer (some ⟨b, 0, none⟩) ∧ t 2 = Fw.sub s2 0 (tln l2) ∧ t 7 = p ∧ t 37 = Fw.sub s1 0 (tln l1) ∧ t 38 = .int .i64 (tln l1 : Int) ∧ RowKit.Below w.heap.size w w2 ∧ ∃ (i : Nat) (ls : List (El 8)), t 39 = .int .i64 (i : Int) ∧ i ≤ tln l1 ∧
      Ow w.heap.size w2 p ls ∧ ls.length = tln l1 + tln l2 - 1 ∧ co ls = co ((tr l1).take i) * co (tr l2))
    (fun t _ => tln l1 - (toI (t 39)).toNat) ⟨rfl, rfl, rfl, rfl, rfl, hB, 0, _, rfl, by omega, ho, by simp, by rw [List.take_zero, co_nil, Ps.zero_mul, co_replicate]⟩ ?_
  clear ho hB
  rintro t w2 ⟨t0, t2, t7, t37, t38, hB, i, ls, t39, hi, ho, hll, hc⟩
  by_cases hlt : i < tln l1
  · have hlt1 : i < (tr l1).length := by rw [tr_len]; exact hlt
    have hlt1' : i < l1.length := by omega
    have g1 : Sl w2 (Fw.sub s1 0 (tln l1)) (tr l1) := (h1.up hB).sub (Nat.zero_le _) hle1
    have g2 : Sl w2 (Fw.sub s2 0 (tln l2)) (tr l2) := (h2.up hB).sub (Nat.zero_le _) hle2
    have wi : IntKind.i64.wrap ((i : Int) + 1) = ((i + 1 : Nat) : Int) := by rw [wrap_id (by omega) (by omega)]; omega
    by_cases hx : (tr l1)[i] = 0
    · have d1 : decide ((((tr l1)[i]).v.toNat : Int) = 0) = true := decide_eq_true ((el_zero _).mpr hx)
      simp only [WS, ↓reduceIte, Nat.reduceEqDiff, reduceCtorEq, t0, t2, t7, t37, t38, t39, show decide ((i : Int) < (tln l1 : Int)) = true from decide_eq_true (by omega), g1.Xix hlt1, g1.Xld hlt1, cell_e8, d1, wi, toI_int]
      refine ⟨⟨hB, i + 1, ls, rfl, by omega, ho, hll, ?_⟩, by omega⟩
      rw [hc, co_take_succ _ hlt1, hx, mono_zero, Ps.add_zero]
    · have d1 : decide ((((tr l1)[i]).v.toNat : Int) = 0) = false := decide_eq_false (fun e => hx ((el_zero _).mp e))
      simp only [WS, ↓reduceIte, Nat.reduceEqDiff, reduceCtorEq, t0, t2, t7, t37, t38, t39, show decide ((i : Int) < (tln l1 : Int)) = true from decide_eq_true (by omega), g1.Xix hlt1, g1.Xld hlt1, cell_e8, d1, g2.Xlen, tr_len]
      refine loop_of (fun t w2 => t 0 = .pointer (some ⟨b, 0, none⟩) ∧ t 2 = Fw.sub s2 0 (tln l2) ∧ t 7 = p ∧ t 8 = .int .i64 (i : Int) ∧ t 9 = .int .u8 (((tr l1)[i]).v.toNat : Int) ∧ t 37 = Fw.sub s1 0 (tln l1) ∧ t 38 = .int .i64 (tln l1 : Int) ∧ t 39 = .int .i64 (i : Int) ∧
          t 46 = Fw.sub s2 0 (tln l2) ∧ t 47 = .int .i64 (tln l2 : Int) ∧ RowKit.Below w.heap.size w w2 ∧ ∃ (j : Nat) (ls : List (El 8)), t 48 = .int .i64 (j : Int) ∧ j ≤ tln l2 ∧
          Ow w.heap.size w2 p ls ∧ ls.length = tln l1 + tln l2 - 1 ∧ ∀ k, (co ls).c k = (co ((tr l1).take i) * co (tr l2)).c k + (if i ≤ k ∧ k < i + j then (tr l1)[i] * (co (tr l2)).c (k - i) else 0))
        (fun t _ => tln l2 - (toI (t 48)).toNat) ⟨by simp only [WS, ↓reduceIte, Nat.reduceEqDiff, reduceCtorEq, t0], by simp only [WS, ↓reduceIte, Nat.reduceEqDiff, reduceCtorEq, t2], by simp only [WS, ↓reduceIte, Nat.reduceEqDiff, reduceCtorEq, t7], rfl, rfl, by simp only [WS, ↓reduceIte, Nat.reduceEqDiff, reduceCtorEq, t37], by simp only [WS, ↓reduceIte, Nat.reduceEqDiff, reduceCtorEq, t38], by simp only [WS, ↓reduceIte, Nat.reduceEqDiff, reduceCtorEq, t39], rfl, rfl, hB, 0, ls, rfl, by omega, ho, hll, fun k => by rw [hc, if_neg (by omega), El.add_zero]⟩ ?_
      clear ho hc hll hB t0 t2 t7 t37 t38 t39 g1 g2
      rintro t w3 ⟨t0, t2, t7, t8, t9, t37, t38, t39, t46, t47, hB, j, ls, t48, hj, ho, hll, hc⟩
      have g2 : Sl w3 (Fw.sub s2 0 (tln l2)) (tr l2) := (h2.up hB).sub (Nat.zero_le _) hle2
      by_cases hjl : j < tln l2
      · have hjl2 : j < (tr l2).length := by rw [tr_len]; exact hjl
        have hij : i + j < ls.length := by omega
        have wij : IntKind.i64.wrap ((i : Int) + (j : Int)) = ((i + j : Nat) : Int) := by rw [wrap_id (by omega) (by omega)]; omega
        have wj : IntKind.i64.wrap ((j : Int) + 1) = ((j + 1 : Nat) : Int) := by rw [wrap_id (by omega) (by omega)]; omega
        obtain ⟨b', mv', iv', hbe, hrow', hm', -⟩ := hr.up hB
        cases hbe
        simp only [WS, ↓reduceIte, Nat.reduceEqDiff, reduceCtorEq, t0, t2, t7, t8, t9, t37, t38, t39, t46, t47, t48, show decide ((j : Int) < (tln l2 : Int)) = true from decide_eq_true (by omega), g2.Xix hjl2, g2.Xld hjl2, cell_e8]
        refine WP_dops ?_
        have hos := ho.sl.drew
        simp only [ES, List.mem_cons, List.not_mem_nil, implies_true, forall_const, WS, ↓reduceIte, Nat.reduceEqDiff, reduceCtorEq, t0, t7, t8, t9, wij, hos.Eix hij, hos.Eld hij, addr_add0, Nat.add_zero, hrow'.drew.Eld (show 0 < [mv', iv'].length by simp), cell_e8]
        refine E_callK (Mul_b.call (w := w3.drew) hm' _ _ fun w4 hl => ?_)
        have hsee := (hl.sl hos).sees hij Try.prog
        rw [cell_e8] at hsee
        have hos4 := hl.sl hos
        simp only [ES, List.mem_cons, List.not_mem_nil, implies_true, forall_const, WS, ↓reduceIte, Nat.reduceEqDiff, reduceCtorEq, hsee, xor8, hos4.Eix hij]
        refine Ow.Est (hl.ow ho.drew) hij (ls[i + j] + (tr l1)[i] * (tr l2)[j]) fun w5 ho5 hg5 => ?_
        have hB5 : RowKit.Below w.heap.size w w5 := (hl.bel (hB.trans ((bel_drew w3).mono hB.size)) hB.size).grown hg5 (by rw [hl.size]; exact hB.size) fun b hb => (ho.blk b hb).1
        simp only [ES, List.mem_cons, List.not_mem_nil, implies_true, forall_const, WS, ↓reduceIte, Nat.reduceEqDiff, reduceCtorEq, t0, t2, t7, t8, t9, t37, t38, t39, t46, t47, t48, wj, toI_int]
        refine ⟨⟨hB5, j + 1, _, rfl, by omega, ho5, by simp [hll], fun k => ?_⟩, by omega⟩
        rw [co_set _ hij, hc k]
        by_cases hk : k = i + j
        · subst hk
          rw [if_pos rfl, if_pos ⟨by omega, by omega⟩]
          have := hc (i + j)
          rw [if_neg (by omega), El.add_zero, co_get ls hij] at this
          rw [this, show i + j - i = j by omega, co_get _ hjl2]
        · rw [if_neg hk]
          have : (i ≤ k ∧ k < i + (j + 1)) = (i ≤ k ∧ k < i + j) := propext ⟨fun h => by omega, fun h => by omega⟩
          simp only [this]
      · have wi : IntKind.i64.wrap ((i : Int) + 1) = ((i + 1 : Nat) : Int) := by rw [wrap_id (by omega) (by omega)]; omega
        simp only [WS, ↓reduceIte, Nat.reduceEqDiff, reduceCtorEq, t0, t2, t7, t8, t9, t37, t38, t39, t46, t47, t48, show decide ((j : Int) < (tln l2 : Int)) = false from decide_eq_false (by omega), wi, toI_int]
        refine ⟨⟨hB, i + 1, ls, rfl, by omega, ho, hll, ?_⟩, by omega⟩
        rw [co_take_succ _ hlt1, Ps.add_mul]
        refine Ps.ext fun k => ?_
        rw [hc k, Ps.add_c, Ps.mono_mul]
        congr 1
        by_cases hik : i ≤ k
        · rw [if_pos hik]
          by_cases hk2 : k < i + j
          · rw [if_pos ⟨hik, hk2⟩]
          · rw [if_neg (by omega), tr_co, tln_dg l2 (k - i) (by omega), El.mul_zero]
        · rw [if_neg (by omega), if_neg hik]
  · have hi' : i = tln l1 := by omega
    have hco : co ls = co l1 * co l2 := by
      rw [hc, hi', show (tr l1).take (tln l1) = tr l1 by rw [← tr_len, List.take_length], tr_co, tr_co]
    simp only [WS, ↓reduceIte, Nat.reduceEqDiff, reduceCtorEq, t0, t2, t7, t37, t38, t39, show decide ((i : Int) < (tln l1 : Int)) = false from decide_eq_false (by omega)]
    exact ⟨ls, ho, tr_mul hco (by omega) (by omega) hll, hco, by omega, hB⟩
end Go.Proofs.Ytbaljbadlfopgaa.Fw

namespace Go.Proofs.Ytbaljbadlfopgaa.Fw
open Go Go.Fw
theorem polys_Ring_b_refuses_spec (w : World) (a : Addr) (s : Value) (hs : List Hd) (h : Sl w s hs) (hb : hs.length ≤ 1000) (hn : ∀ x ∈ hs, x.n ≤ 140737488355328) :
    CallV Try.prog 87 [.pointer (some a), s] w fun v w' => v = .int .i64 (if ∀ x ∈ hs, x.n ≤ 1024 then 0 else 5) ∧ w' = w := by
  refine run_polys_Ring_b_refuses (by simp) ?_
  simp only [c_polys_Ring_b_refuses, WS, ↓reduceIte, Nat.reduceEqDiff, reduceCtorEq, h.Xlen]
  refine loop_of (fun t w' => w' = w ∧ t 9 = s ∧ t 10 = .int .i64 (hs.length : Int) ∧ ∃ i : Nat, t 11 = .int .i64 (i : Int) ∧ i ≤ hs.length ∧ ∀ x ∈ hs.take i, x.n ≤ 1024) (fun t _ => hs.length - (toI (t 11)).toNat) ⟨rfl, rfl, rfl, 0, rfl, by omega, by simp⟩ ?_
  rintro t w' ⟨rfl, t9, t10, i, t11, hi, hall⟩
  by_cases hlt : i < hs.length
  · simp only [WS, ↓reduceIte, Nat.reduceEqDiff, reduceCtorEq, t9, t10, t11, show decide ((i : Int) < (hs.length : Int)) = true from decide_eq_true (by omega), h.Xix hlt, h.Xld hlt, cell_hd, X_lenS]
    by_cases hx : hs[i].n ≤ 1024
    · simp only [WS, ↓reduceIte, Nat.reduceEqDiff, reduceCtorEq, t9, t10, t11, show decide ((1024 : Int) < (hs[i].n : Int)) = false from decide_eq_false (by omega), wrap_id (show -9223372036854775808 ≤ (i : Int) + 1 by omega) (show (i : Int) + 1 < 9223372036854775808 by omega), toI_int]
      refine ⟨⟨i + 1, rfl, by omega, fun x hxm => ?_⟩, by omega⟩
      rw [List.take_add_one, List.getElem?_eq_getElem hlt] at hxm
      rcases List.mem_append.1 hxm with h1 | h1
      · exact hall x h1
      · simp at h1; subst h1; exact hx
    · have : ¬ ∀ x ∈ hs, x.n ≤ 1024 := fun h => hx (h _ (List.getElem_mem hlt))
      simp only [WS, ↓reduceIte, Nat.reduceEqDiff, reduceCtorEq, t9, t10, t11, show decide ((1024 : Int) < (hs[i].n : Int)) = true from decide_eq_true (by omega), if_neg this]
  · have : ∀ x ∈ hs, x.n ≤ 1024 := by
      rw [List.take_of_length_le (by omega)] at hall; exact hall
    simp only [WS, ↓reduceIte, Nat.reduceEqDiff, reduceCtorEq, t9, t10, t11, show decide ((i : Int) < (hs.length : Int)) = false from decide_eq_false (by omega), if_pos this]
theorem polys_Ring_b_Eval_spec (w : World) (r s : Value) (l : List (El 8)) (x : El 8) (hr : Ring_b w r) (h : Sl w s l) (hb : l.length ≤ 70368744175616) :
    CallV Try.prog 59 [r, s, .int .u8 (x.v.toNat : Int)] w fun v w' => v = .int .u8 ((evl l x).v.toNat : Int) ∧ RowKit.Below w.heap.size w w' := by
  obtain ⟨b, mv, iv, rfl, hrow, hm, hiv⟩ := hr
  refine run_polys_Ring_b_Eval (by simp) ?_
  simp only [c_polys_Ring_b_Eval, WS, ↓reduceIte, Nat.reduceEqDiff, reduceCtorEq, h.Xlen, wrap_id (show -9223372036854775808 ≤ (l.length : Int) - 1 by omega) (show (l.length : Int) - 1 < 9223372036854775808 by omega)]
  refine loop_of (fun t w' => t 0 = .pointer (some ⟨b, 0, none⟩) ∧ t 1 = s ∧ t 2 = .int .u8 (x.v.toNat : Int) ∧ RowKit.Below w.heap.size w w' ∧ ∃ k : Nat, t 8 = .int .i64 ((k : Int) - 1) ∧ k ≤ l.length ∧ t 7 = .int .u8 ((evl (l.drop k) x).v.toNat : Int)) (fun t _ => (toI (t 8) + 1).toNat)
    ⟨rfl, rfl, rfl, RowKit.Below.refl _ _, l.length, rfl, Nat.le_refl _, by rw [List.drop_length]; rfl⟩ ?_
  rintro t w' ⟨t0, t1, t2, hB, k, t8, hk, t7⟩
  rcases Nat.eq_zero_or_pos k with rfl | hp
  · rw [List.drop_zero] at t7
    simp only [WS, ↓reduceIte, Nat.reduceEqDiff, reduceCtorEq, t0, t1, t2, t7, t8, show decide ((0 : Int) ≤ ((0 : Nat) : Int) - 1) = false from rfl]
    exact hB
  · obtain ⟨k, rfl⟩ : ∃ j, k = j + 1 := ⟨k - 1, by omega⟩
    have e1 : ((k + 1 : Nat) : Int) - 1 = (k : Int) := by omega
    rw [e1] at t8
    have hkl : k < l.length := by omega
    obtain ⟨b', mv', iv', hbe, hrow', hm', -⟩ := (show Ring_b w (.pointer (some ⟨b, 0, none⟩)) from ⟨b, mv, iv, rfl, hrow, hm, hiv⟩).up hB
    cases hbe
    have hos := (h.up hB).drew
    simp only [WS, ↓reduceIte, Nat.reduceEqDiff, reduceCtorEq, t0, t1, t2, t7, t8, show decide ((0 : Int) ≤ (k : Int)) = true by simp]
    refine WP_dops ?_
    simp only [ES, List.mem_cons, List.not_mem_nil, implies_true, forall_const, WS, ↓reduceIte, Nat.reduceEqDiff, reduceCtorEq, t0, t1, t2, t7, t8, addr_add0, Nat.add_zero, hrow'.drew.Eld (show 0 < [mv', iv'].length by simp)]
    refine E_callK (Mul_b.call (w := w'.drew) hm' _ _ fun w4 hl => ?_)
    have hos4 := hl.sl hos
    have hsee := hos.sees hkl Try.prog
    rw [cell_e8] at hsee
    simp only [ES, List.mem_cons, List.not_mem_nil, implies_true, forall_const, WS, ↓reduceIte, Nat.reduceEqDiff, reduceCtorEq, t0, t1, t2, t7, t8, hos4.Eix hkl, hos4.Eld hkl, cell_e8, hsee, xor8, wrap_id (show -9223372036854775808 ≤ (k : Int) - 1 by omega) (show (k : Int) - 1 < 9223372036854775808 by omega), toI_int]
    refine ⟨⟨hl.bel (hB.trans ((bel_drew w').mono hB.size)) hB.size, k, rfl, by omega, ?_⟩, by omega⟩
    rw [evl_drop x l hkl, El.add_comm, El.mul_comm x]
end Go.Proofs.Ytbaljbadlfopgaa.Fw

namespace Go.Proofs.Ytbaljbadlfopgaa.Fw
open Go Go.Fw
theorem polys_Ring_b_vanishing_spec (w : World) (r s : Value) (l : List (El 8)) (hr : Ring_b w r) (h : Sl w s l) (hb : l.length ≤ 1048576) :
    CallV Try.prog 126 [r, s] w fun v w' => ∃ m, Ow w.heap.size w' v m ∧ m.length = l.length + 1 ∧ co m = vps l ∧ RowKit.Below w.heap.size w w' := by
  obtain ⟨b, mv, iv, rfl, -, -, -⟩ := id hr
  refine run_polys_Ring_b_vanishing (by simp) ?_
  simp only [c_polys_Ring_b_vanishing, WS, ↓reduceIte, Nat.reduceEqDiff, reduceCtorEq]
  refine X_bsl (zs := [(1 : El 8)]) rfl rfl fun p w1 ho hB => ?_
  simp only [WS, ↓reduceIte, Nat.reduceEqDiff, reduceCtorEq, h.Xlen]
  refine loop_of (fun t w' => t 0 = .pointer (some ⟨b, 0, none⟩) ∧ t 10 = s ∧ t 11 = .int .i64 (l.length : Int) ∧ RowKit.Below w.heap.size w w' ∧ ∃ (i : Nat) (p : Value) (ls : List (El 8)), t 12 = .int .i64 (i : Int) ∧ i ≤ l.length ∧ t 5 = p ∧ Ow w.heap.size w' p ls ∧ ls.length = i + 1 ∧ co ls = vps (l.take i))
    (fun t _ => l.length - (toI (t 12)).toNat) ⟨rfl, rfl, rfl, hB, 0, p, _, rfl, by omega, rfl, ho, rfl, by
      rw [List.take_zero]
      refine Ps.ext fun k => ?_
      cases k <;> rfl⟩ ?_
  clear ho hB p w1
  rintro t w1 ⟨t0, t10, t11, hB, i, p, ls, t12, hi, t5, ho, hll, hc⟩
  by_cases hlt : i < l.length
  · have wi : IntKind.i64.wrap ((i : Int) + 1) = ((i + 1 : Nat) : Int) := by rw [wrap_id (by omega) (by omega)]; omega
    simp only [WS, ↓reduceIte, Nat.reduceEqDiff, reduceCtorEq, t0, t5, t10, t11, t12, show decide ((i : Int) < (l.length : Int)) = true from decide_eq_true (by omega), (h.up hB).Xix hlt, (h.up hB).Xld hlt, cell_e8]
    refine X_bsl (zs := [(0 : El 8)]) rfl rfl fun z w2 hoz hB2 => ?_
    simp only [WS, ↓reduceIte, Nat.reduceEqDiff, reduceCtorEq, t0, t5, t10, t11, t12]
    refine Ow.Xapp (ho.up hB2) hoz.sl (by have := hB.size; have := hB2.size; omega) ?_ ?_ fun q w3 hoq hg hnear => ?_
    · simp only [maxBytes, List.length_singleton]; omega
    · simp only [List.length_singleton]; omega
    have hB3 : RowKit.Below w.heap.size w w3 := (hB.trans (hB2.mono hB.size)).grown hg (Nat.le_trans hB.size hB2.size) fun b hb => (ho.blk b hb).1
    have hql : (ls ++ [(0 : El 8)]).length = i + 2 := by simp [hll]
    have e1 : IntKind.i64.wrap (((i + 2 : Nat) : Int) - 1) = ((i + 1 : Nat) : Int) := by rw [wrap_id (by omega) (by omega)]; omega
    simp only [WS, ↓reduceIte, Nat.reduceEqDiff, reduceCtorEq, t0, t10, t11, t12, hoq.sl.Xlen, hql, e1]
    refine loop_of (fun t w' => t 0 = .pointer (some ⟨b, 0, none⟩) ∧ t 5 = q ∧ t 7 = .int .u8 ((l[i]).v.toNat : Int) ∧ t 10 = s ∧ t 11 = .int .i64 (l.length : Int) ∧ t 12 = .int .i64 (i : Int) ∧ RowKit.Below w.heap.size w w' ∧
        ∃ (j : Nat) (ms : List (El 8)), t 8 = .int .i64 (j : Int) ∧ j ≤ i + 1 ∧ Ow w.heap.size w' q ms ∧ ms.length = i + 2 ∧ ∀ k, (co ms).c k = if k ≤ j then (co ls).c k else (lin l[i] * co ls).c k)
      (fun t _ => (toI (t 8)).toNat) ⟨by simp only [WS, ↓reduceIte, Nat.reduceEqDiff, reduceCtorEq, t0], rfl, rfl, by simp only [WS, ↓reduceIte, Nat.reduceEqDiff, reduceCtorEq, t10], by simp only [WS, ↓reduceIte, Nat.reduceEqDiff, reduceCtorEq, t11], by simp only [WS, ↓reduceIte, Nat.reduceEqDiff, reduceCtorEq, t12], hB3, i + 1, _, rfl, Nat.le_refl _, hoq, hql, fun k => by
        have e : co (ls ++ [(0 : El 8)]) = co ls := co_append_zeros ls 1
        rw [e]
        by_cases hk : k ≤ i + 1
        · rw [if_pos hk]
        · rw [if_neg hk, co_dg ls k (by omega), lin_mul, co_dg ls k (by omega), El.mul_zero, if_neg (by omega), co_dg ls (k - 1) (by omega), El.add_zero]⟩ ?_
    clear hoq hg hnear hB3 hB2 hoz
    rintro t w4 ⟨t0, t5, t7, t10, t11, t12, hB4, j, ms, t8, hj, hom, hml, hmc⟩
    obtain ⟨b', mv', iv', hbe, hrow', hm', -⟩ := hr.up hB4
    cases hbe
    have hos := hom.sl.drew
    rcases Nat.eq_zero_or_pos j with rfl | hp
    · have h0 : 0 < ms.length := by omega
      simp only [WS, ↓reduceIte, Nat.reduceEqDiff, reduceCtorEq, t0, t5, t7, t8, t10, t11, t12, show decide ((0 : Int) < ((0 : Nat) : Int)) = false from rfl]
      refine WP_dops ?_
      simp only [ES, List.mem_cons, List.not_mem_nil, implies_true, forall_const, WS, ↓reduceIte, Nat.reduceEqDiff, reduceCtorEq, t0, t5, t7, t8, addr_add0, Nat.add_zero, hrow'.drew.Eld (show 0 < [mv', iv'].length by simp), hos.Eix0 h0, hos.Eld h0, cell_e8]
      refine E_callK (Mul_b.call (w := w4.drew) hm' _ _ fun w5 hl => ?_)
      have hos5 := hl.sl hos
      simp only [ES, List.mem_cons, List.not_mem_nil, implies_true, forall_const, WS, ↓reduceIte, Nat.reduceEqDiff, reduceCtorEq, hos5.Eix0 h0]
      refine Ow.Est (hl.ow hom.drew) h0 (ms[0] * l[i]) fun w6 ho6 hg6 => ?_
      have hB6 : RowKit.Below w.heap.size w w6 := (hl.bel (hB4.trans ((bel_drew w4).mono hB4.size)) hB4.size).grown hg6 (by rw [hl.size]; exact hB4.size) fun b hb => (hom.blk b hb).1
      simp only [ES, List.mem_cons, List.not_mem_nil, implies_true, forall_const, WS, ↓reduceIte, Nat.reduceEqDiff, reduceCtorEq, t0, t5, t7, t8, t10, t11, t12, wi, toI_int]
      refine ⟨⟨hB6, i + 1, q, _, rfl, by omega, rfl, ho6, by simp [hml], ?_⟩, by omega⟩
      rw [vps_take l hlt, ← hc]
      refine Ps.ext fun k => ?_
      rw [co_set _ h0, hmc k]
      by_cases hk : k = 0
      · subst hk
        have := hmc 0
        rw [if_pos (Nat.le_refl _), co_get ms h0] at this
        rw [if_pos rfl, lin_mul, if_pos rfl, El.add_zero, this, El.mul_comm]
      · rw [if_neg hk, if_neg (by omega)]
    · obtain ⟨j, rfl⟩ : ∃ k, j = k + 1 := ⟨j - 1, by omega⟩
      have hj1 : j + 1 < ms.length := by omega
      have hj0 : j < ms.length := by omega
      have wj : IntKind.i64.wrap (((j + 1 : Nat) : Int) - 1) = (j : Int) := by rw [wrap_id (by omega) (by omega)]; omega
      simp only [WS, ↓reduceIte, Nat.reduceEqDiff, reduceCtorEq, t0, t5, t7, t8, t10, t11, t12, show decide ((0 : Int) < ((j + 1 : Nat) : Int)) = true from decide_eq_true (by omega)]
      refine WP_dops ?_
      simp only [ES, List.mem_cons, List.not_mem_nil, implies_true, forall_const, WS, ↓reduceIte, Nat.reduceEqDiff, reduceCtorEq, t0, t5, t7, t8, wj, addr_add0, Nat.add_zero, hrow'.drew.Eld (show 0 < [mv', iv'].length by simp), hos.Eix hj0, hos.Eld hj0, hos.Eix hj1, hos.Eld hj1, cell_e8]
      refine E_callK (Mul_b.call (w := w4.drew) hm' _ _ fun w5 hl => ?_)
      have hos5 := hl.sl hos
      have hsee := hos5.sees hj0 Try.prog
      rw [cell_e8] at hsee
      simp only [ES, List.mem_cons, List.not_mem_nil, implies_true, forall_const, WS, ↓reduceIte, Nat.reduceEqDiff, reduceCtorEq, hsee, xor8, hos5.Eix hj1]
      refine Ow.Est (hl.ow hom.drew) hj1 (ms[j] + ms[j + 1] * l[i]) fun w6 ho6 hg6 => ?_
      have hB6 : RowKit.Below w.heap.size w w6 := (hl.bel (hB4.trans ((bel_drew w4).mono hB4.size)) hB4.size).grown hg6 (by rw [hl.size]; exact hB4.size) fun b hb => (hom.blk b hb).1
      simp only [ES, List.mem_cons, List.not_mem_nil, implies_true, forall_const, WS, ↓reduceIte, Nat.reduceEqDiff, reduceCtorEq, t0, t5, t7, t8, t10, t11, t12, wj, toI_int]
      refine ⟨⟨hB6, j, _, rfl, by omega, ho6, by simp [hml], fun k => ?_⟩, by omega⟩
      rw [co_set _ hj1, hmc k]
      by_cases hk : k = j + 1
      · subst hk
        have g1 := hmc (j + 1)
        have g0 := hmc j
        rw [if_pos (Nat.le_refl _), co_get ms hj1] at g1
        rw [if_pos (by omega), co_get ms hj0] at g0
        rw [if_pos rfl, if_neg (by omega), lin_mul, if_neg (by omega), Nat.add_sub_cancel, g1, g0, El.add_comm, El.mul_comm]
      · rw [if_neg hk]
        by_cases hkj : k ≤ j
        · rw [if_pos (by omega), if_pos hkj]
        · rw [if_neg (by omega), if_neg hkj]
  · have : i = l.length := by omega
    subst this
    rw [List.take_length] at hc
    simp only [WS, ↓reduceIte, Nat.reduceEqDiff, reduceCtorEq, t0, t5, t10, t11, t12, show decide ((l.length : Int) < (l.length : Int)) = false from decide_eq_false (by omega)]
    exact ⟨ls, ho, hll, hc, hB⟩
theorem polys_Ring_b_Vanishing_spec (w : World) (r s : Value) (l : List (El 8)) (hr : Ring_b w r) (h : Sl w s l) (hb : l.length ≤ 70368744175616) :
    CallV Try.prog 89 [r, s] w fun v w' => RowKit.Below w.heap.size w w' ∧
      ((l.length ≤ 1024 ∧ ∃ s m, v = .tuple #[s, .int .i64 0] ∧ Ow w.heap.size w' s m ∧ m.length = l.length + 1 ∧ co m = vps l) ∨
       (¬ l.length ≤ 1024 ∧ v = .tuple #[.slice none 0 0, .int .i64 5])) := by
  refine run_polys_Ring_b_Vanishing (by simp) ?_
  simp only [c_polys_Ring_b_Vanishing, WS, ↓reduceIte, Nat.reduceEqDiff, reduceCtorEq]
  obtain ⟨e1, n1⟩ := h.hd
  refine X_bsl (zs := [hd s]) (fill1 h) rfl fun ls w1 ho hB => ?_
  obtain ⟨b, mv, iv, rfl, -, -⟩ := id hr
  simp only [WS, ↓reduceIte, Nat.reduceEqDiff, reduceCtorEq]
  refine X_call0 ((polys_Ring_b_refuses_spec w1 _ ls _ ho.sl (by simp) (by simp [n1]; omega)).mono ?_)
  rintro v w' ⟨rfl, rfl⟩
  have hiff : (∀ x ∈ [hd s], x.n ≤ 1024) = (l.length ≤ 1024) := by simp [n1]
  by_cases hsz : l.length ≤ 1024
  · rw [if_pos (hiff.mpr hsz)]
    simp only [WS, ↓reduceIte, Nat.reduceEqDiff, reduceCtorEq, show decide ((0 : Int) = 0) = true from rfl]
    refine X_call0 ((polys_Ring_b_vanishing_spec w' _ s l (hr.up hB) (h.up hB) (by omega)).mono ?_)
    rintro v w2 ⟨l, ho, h3, h4, hB2⟩
    simp only [WS, ↓reduceIte, Nat.reduceEqDiff, reduceCtorEq]
    exact ⟨hB.trans (hB2.mono hB.size), Or.inl ⟨hsz, v, l, rfl, ho.mono hB.size, h3, h4⟩⟩
  · rw [if_neg (fun e => hsz (hiff.mp e))]
    simp only [WS, ↓reduceIte, Nat.reduceEqDiff, reduceCtorEq, show decide ((5 : Int) = 0) = false from rfl]
    exact ⟨hB, Or.inr hsz⟩
end Go.Proofs.Ytbaljbadlfopgaa.Fw

set_option linter.unusedVariables false
set_option linter.unusedSimpArgs false
set_option maxRecDepth 100000
set_option maxHeartbeats 1000000
namespace Go.Proofs.Ytbaljbadlfopgaa.Fw
open Go Go.Fw Go.Proofs
attribute [local irreducible] stepI
def c_polys_Ring_b_Interpolate : C := .seq (.ops [⟨0,some 6,none,.mov (.c (.slice none 0 0)),[]⟩,⟨1,some 7,none,.mov (.c (.int .i64 0)),[]⟩]) (.seq (.seq (.ops [⟨0,some 12,none,.mov (.t 0),[]⟩,⟨1,some 13,none,.mov (.t 1),[]⟩,⟨2,some 14,none,.mov (.t 2),[]⟩,⟨3,some 15,none,.bsl 25 2 [.slice none 0 0] [(0,(1,.t 13)),(1,(1,.t 14))],[]⟩,⟨4,some 16,none,.call (.c (.func (.func 87) #[] #[])) [.t 12,.t 15],[]⟩,⟨5,some 8,none,.mov (.t 16),[]⟩]) (.seq (.ops [⟨0,some 17,none,.mov (.t 8),[]⟩,⟨1,some 18,none,.bin .neq (.t 17) (.c (.int .i64 0)),[]⟩]) (.ite (.t 18) (.seq (.ops [⟨0,some 19,none,.mov (.t 8),[]⟩,⟨1,some 6,none,.mov (.c (.slice none 0 0)),[]⟩,⟨2,some 7,none,.mov (.t 19),[]⟩]) .ret) .skip))) (.seq (.seq (.ops [⟨0,some 20,none,.mov (.t 1),[]⟩,⟨1,some 21,none,.len (.t 20),[]⟩,⟨2,some 22,none,.mov (.t 2),[]⟩,⟨3,some 23,none,.len (.t 22),[]⟩,⟨4,some 24,none,.bin .neq (.t 21) (.t 23),[]⟩]) (.ite (.t 24) (.seq (.ops [⟨0,some 6,none,.mov (.c (.slice none 0 0)),[]⟩,⟨1,some 7,none,.mov (.c (.int .i64 6)),[]⟩]) .ret) .skip)) (.seq (.ops [⟨0,some 25,none,.mkm,[]⟩,⟨1,some 9,none,.mov (.t 25),[]⟩]) (.seq (.seq (.ops [⟨0,some 26,none,.mov (.t 1),[]⟩,⟨1,some 27,none,.len (.t 26),[]⟩,⟨2,some 28,none,.mov (.c (.int .i64 0)),[]⟩]) (.block 0 (.loop (.seq (.ops [⟨0,some 29,none,.bin .lss (.t 28) (.t 27),[]⟩]) (.seq (.ite (.t 29) .skip (.exit 0)) (.seq (.block 1 (.seq (.ops [⟨0,some 30,none,.ixs 1 (.t 26) (.t 28),[]⟩,⟨1,some 31,none,.ld (.t 30),[]⟩,⟨2,some 11,none,.mov (.t 31),[]⟩]) (.seq (.ops [⟨0,some 32,none,.mov (.t 9),[]⟩,⟨1,some 33,none,.mov (.t 11),[]⟩,⟨2,some 34,none,.mlk .u8 .i64 (.t 32) (.t 33),[]⟩,⟨3,some 35,none,.bin .add (.t 34) (.c (.int .i64 1)),[]⟩,⟨4,none,none,.mup .u8 (.t 32) (.t 33) (.t 35),[]⟩]) (.seq (.ops [⟨0,some 36,none,.mov (.t 9),[]⟩,⟨1,some 37,none,.mov (.t 11),[]⟩,⟨2,some 38,none,.mlk .u8 .i64 (.t 36) (.t 37),[]⟩,⟨3,some 39,none,.bin .gtr (.t 38) (.c (.int .i64 1)),[]⟩]) (.ite (.t 39) (.seq (.ops [⟨0,some 6,none,.mov (.c (.slice none 0 0)),[]⟩,⟨1,some 7,none,.mov (.c (.int .i64 41)),[]⟩]) .ret) .skip))))) (.ops [⟨0,some 40,none,.bin .add (.t 28) (.c (.int .i64 1)),[]⟩,⟨1,some 28,none,.mov (.t 40),[]⟩]))))))) (.seq (.ops [⟨0,some 41,none,.mov (.t 0),[]⟩,⟨1,some 42,none,.mov (.t 1),[]⟩,⟨2,some 43,none,.mov (.t 2),[]⟩,⟨3,some 44,none,.call (.c (.func (.func 88) #[] #[])) [.t 41,.t 42,.t 43],[]⟩,⟨4,some 6,none,.mov (.t 44),[]⟩,⟨5,some 7,none,.mov (.c (.int .i64 0)),[]⟩]) .ret)))))
attribute [irreducible] c_polys_Ring_b_Interpolate
theorem run_polys_Ring_b_Interpolate {args : List Value} {w : World} {K : Value → World → Prop} (hn : args.length ≤ 45) (h : WP Try.prog c_polys_Ring_b_Interpolate (endQ [.t 6, .t 7] K) (initT args) w) : CallV Try.prog 56 args w K :=
  call_of follows Try.func56 (by kernel_rfl) (by kernel_rfl) hn h
def c_polys_Ring_b_newton : C := .seq (.ops [⟨0,some 6,none,.mov (.c (.slice none 0 0)),[]⟩]) (.seq (.ops [⟨0,some 16,none,.mov (.t 1),[]⟩,⟨1,some 17,none,.len (.t 16),[]⟩,⟨2,some 7,none,.mov (.t 17),[]⟩]) (.seq (.ops [⟨0,some 18,none,.mov (.t 2),[]⟩,⟨1,some 19,none,.app 5 1 [.int .u8 0] (.c (.slice none 0 0)) (.t 18),[]⟩,⟨2,some 8,none,.mov (.t 19),[]⟩]) (.seq (.seq (.ops [⟨0,some 9,none,.mov (.c (.int .i64 1)),[]⟩]) (.block 0 (.loop (.seq (.seq (.ops [⟨0,some 20,none,.mov (.t 9),[]⟩,⟨1,some 21,none,.mov (.t 7),[]⟩,⟨2,some 22,none,.bin .lss (.t 20) (.t 21),[]⟩]) (.ite (.t 22) .skip (.exit 0))) (.seq (.block 1 (.seq (.ops [⟨0,some 25,none,.mov (.t 7),[]⟩,⟨1,some 26,none,.bin .sub (.t 25) (.c (.int .i64 1)),[]⟩,⟨2,some 10,none,.mov (.t 26),[]⟩]) (.block 2 (.loop (.seq (.seq (.ops [⟨0,some 27,none,.mov (.t 10),[]⟩,⟨1,some 28,none,.mov (.t 9),[]⟩,⟨2,some 29,none,.bin .geq (.t 27) (.t 28),[]⟩]) (.ite (.t 29) .skip (.exit 2))) (.seq (.block 3 (.seq (.dops [⟨0,some 33,none,.mov (.t 0),[]⟩,⟨1,some 34,none,.nil (.t 33),[]⟩,⟨2,some 35,none,.fad 1 (.t 34),[]⟩,⟨3,some 36,none,.ld (.t 35),[]⟩,⟨4,some 37,none,.mov (.t 1),[]⟩,⟨5,some 38,none,.mov (.t 10),[]⟩,⟨6,some 39,none,.ixs 1 (.t 37) (.t 38),[]⟩,⟨7,some 40,none,.ld (.t 39),[]⟩,⟨8,some 41,none,.mov (.t 1),[]⟩,⟨9,some 42,none,.mov (.t 10),[]⟩,⟨10,some 43,none,.mov (.t 9),[]⟩,⟨11,some 44,none,.bin .sub (.t 42) (.t 43),[]⟩,⟨12,some 45,none,.ixs 1 (.t 41) (.t 44),[]⟩,⟨13,some 46,none,.ld (.t 45),[]⟩,⟨14,some 47,none,.bin .xor (.t 40) (.t 46),[]⟩,⟨15,some 48,none,.call (.t 36) [.t 47],[]⟩,⟨16,some 32,none,.mov (.t 48),[]⟩,⟨17,some 49,none,.ext (.t 32) 0,[]⟩,⟨18,some 50,none,.ext (.t 32) 1,[]⟩,⟨19,some 11,none,.mov (.t 49),[]⟩,⟨20,some 12,none,.mov (.t 50),[]⟩]) (.dops [⟨0,some 51,none,.mov (.t 8),[]⟩,⟨1,some 52,none,.mov (.t 10),[]⟩,⟨2,some 53,none,.mov (.t 0),[]⟩,⟨3,some 54,none,.nil (.t 53),[]⟩,⟨4,some 55,none,.fad 0 (.t 54),[]⟩,⟨5,some 56,none,.ld (.t 55),[]⟩,⟨6,some 57,none,.mov (.t 8),[]⟩,⟨7,some 58,none,.mov (.t 10),[]⟩,⟨8,some 59,none,.ixs 1 (.t 57) (.t 58),[]⟩,⟨9,some 60,none,.ld (.t 59),[]⟩,⟨10,some 61,none,.mov (.t 8),[]⟩,⟨11,some 62,none,.mov (.t 10),[]⟩,⟨12,some 63,none,.bin .sub (.t 62) (.c (.int .i64 1)),[]⟩,⟨13,some 64,none,.ixs 1 (.t 61) (.t 63),[]⟩,⟨14,some 65,none,.ld (.t 64),[]⟩,⟨15,some 66,none,.bin .xor (.t 60) (.t 65),[]⟩,⟨16,some 67,none,.mov (.t 11),[]⟩,⟨17,some 68,none,.call (.t 56) [.t 66,.t 67],[]⟩,⟨18,some 69,none,.ixs 1 (.t 51) (.t 52),[]⟩,⟨19,none,none,.st (.t 69) (.t 68),[]⟩]))) (.ops [⟨0,some 30,none,.mov (.t 10),[]⟩,⟨1,some 31,none,.bin .sub (.t 30) (.c (.int .i64 1)),[]⟩,⟨2,some 10,none,.mov (.t 31),[]⟩]))))))) (.ops [⟨0,some 23,none,.mov (.t 9),[]⟩,⟨1,some 24,none,.bin .add (.t 23) (.c (.int .i64 1)),[]⟩,⟨2,some 9,none,.mov (.t 24),[]⟩])))))) (.seq (.ops [⟨0,some 70,none,.mov (.t 7),[]⟩,⟨1,some 71,none,.mks 5 1 [.int .u8 0] (.c (.int .i64 0)) (.t 70),[]⟩,⟨2,some 13,none,.mov (.t 71),[]⟩]) (.seq (.seq (.ops [⟨0,some 72,none,.mov (.t 7),[]⟩,⟨1,some 73,none,.bin .sub (.t 72) (.c (.int .i64 1)),[]⟩,⟨2,some 14,none,.mov (.t 73),[]⟩]) (.block 4 (.loop (.seq (.seq (.ops [⟨0,some 74,none,.mov (.t 14),[]⟩,⟨1,some 75,none,.bin .geq (.t 74) (.c (.int .i64 0)),[]⟩]) (.ite (.t 75) .skip (.exit 4))) (.seq (.block 5 (.seq (.ops [⟨0,some 78,none,.mov (.t 13),[]⟩,⟨1,some 79,none,.bsl 5 1 [.int .u8 0] [(0,(1,.c (.int .u8 0)))],[]⟩,⟨2,some 80,none,.app 5 1 [.int .u8 0] (.t 78) (.t 79),[]⟩,⟨3,some 13,none,.mov (.t 80),[]⟩]) (.seq (.seq (.ops [⟨0,some 81,none,.mov (.t 13),[]⟩,⟨1,some 82,none,.len (.t 81),[]⟩,⟨2,some 83,none,.bin .sub (.t 82) (.c (.int .i64 1)),[]⟩,⟨3,some 15,none,.mov (.t 83),[]⟩]) (.block 6 (.loop (.seq (.seq (.ops [⟨0,some 84,none,.mov (.t 15),[]⟩,⟨1,some 85,none,.bin .gtr (.t 84) (.c (.int .i64 0)),[]⟩]) (.ite (.t 85) .skip (.exit 6))) (.seq (.block 7 (.dops [⟨0,some 88,none,.mov (.t 13),[]⟩,⟨1,some 89,none,.mov (.t 15),[]⟩,⟨2,some 90,none,.mov (.t 13),[]⟩,⟨3,some 91,none,.mov (.t 15),[]⟩,⟨4,some 92,none,.bin .sub (.t 91) (.c (.int .i64 1)),[]⟩,⟨5,some 93,none,.ixs 1 (.t 90) (.t 92),[]⟩,⟨6,some 94,none,.ld (.t 93),[]⟩,⟨7,some 95,none,.mov (.t 0),[]⟩,⟨8,some 96,none,.nil (.t 95),[]⟩,⟨9,some 97,none,.fad 0 (.t 96),[]⟩,⟨10,some 98,none,.ld (.t 97),[]⟩,⟨11,some 99,none,.mov (.t 13),[]⟩,⟨12,some 100,none,.mov (.t 15),[]⟩,⟨13,some 101,none,.ixs 1 (.t 99) (.t 100),[]⟩,⟨14,some 102,none,.ld (.t 101),[]⟩,⟨15,some 103,none,.mov (.t 1),[]⟩,⟨16,some 104,none,.mov (.t 14),[]⟩,⟨17,some 105,none,.ixs 1 (.t 103) (.t 104),[]⟩,⟨18,some 106,none,.ld (.t 105),[]⟩,⟨19,some 107,none,.call (.t 98) [.t 102,.t 106],[6]⟩,⟨20,some 108,none,.bin .xor (.t 94) (.t 107),[]⟩,⟨21,some 109,none,.ixs 1 (.t 88) (.t 89),[]⟩,⟨22,none,none,.st (.t 109) (.t 108),[]⟩])) (.ops [⟨0,some 86,none,.mov (.t 15),[]⟩,⟨1,some 87,none,.bin .sub (.t 86) (.c (.int .i64 1)),[]⟩,⟨2,some 15,none,.mov (.t 87),[]⟩])))))) (.dops [⟨0,some 110,none,.mov (.t 13),[]⟩,⟨1,some 111,none,.mov (.t 0),[]⟩,⟨2,some 112,none,.nil (.t 111),[]⟩,⟨3,some 113,none,.fad 0 (.t 112),[]⟩,⟨4,some 114,none,.ld (.t 113),[]⟩,⟨5,some 115,none,.mov (.t 13),[]⟩,⟨6,some 116,none,.ixs 1 (.t 115) (.c (.int .i64 0)),[]⟩,⟨7,some 117,none,.ld (.t 116),[]⟩,⟨8,some 118,none,.mov (.t 1),[]⟩,⟨9,some 119,none,.mov (.t 14),[]⟩,⟨10,some 120,none,.ixs 1 (.t 118) (.t 119),[]⟩,⟨11,some 121,none,.ld (.t 120),[]⟩,⟨12,some 122,none,.call (.t 114) [.t 117,.t 121],[]⟩,⟨13,some 123,none,.mov (.t 8),[]⟩,⟨14,some 124,none,.mov (.t 14),[]⟩,⟨15,some 125,none,.ixs 1 (.t 123) (.t 124),[]⟩,⟨16,some 126,none,.ld (.t 125),[12]⟩,⟨17,some 127,none,.bin .xor (.t 122) (.t 126),[]⟩,⟨18,some 128,none,.ixs 1 (.t 110) (.c (.int .i64 0)),[]⟩,⟨19,none,none,.st (.t 128) (.t 127),[]⟩])))) (.ops [⟨0,some 76,none,.mov (.t 14),[]⟩,⟨1,some 77,none,.bin .sub (.t 76) (.c (.int .i64 1)),[]⟩,⟨2,some 14,none,.mov (.t 77),[]⟩])))))) (.seq (.ops [⟨0,some 129,none,.mov (.t 13),[]⟩,⟨1,some 130,none,.call (.c (.func (.func 125) #[] #[])) [.t 129],[]⟩,⟨2,some 6,none,.mov (.t 130),[]⟩]) .ret))))))
attribute [irreducible] c_polys_Ring_b_newton
theorem run_polys_Ring_b_newton {args : List Value} {w : World} {K : Value → World → Prop} (hn : args.length ≤ 131) (h : WP Try.prog c_polys_Ring_b_newton (endQ [.t 6] K) (initT args) w) : CallV Try.prog 88 args w K :=
  call_of follows Try.func88 (by kernel_rfl) (by kernel_rfl) hn h
end Go.Proofs.Ytbaljbadlfopgaa.Fw
namespace Go.Proofs.Ytbaljbadlfopgaa.Fw
open Go Go.Fw
theorem polys_Ring_b_newton_spec (w : World) (r s1 s2 : Value) (l1 l2 : List (El 8)) (hr : Ring_b w r) (h1 : Sl w s1 l1) (h2 : Sl w s2 l2) (hb : l1.length ≤ 1048576) (hl : l2.length = l1.length) (hnd : ∀ a b, a < l1.length → b < l1.length → l1.getD a 0 = l1.getD b 0 → a = b) :
    CallV Try.prog 88 [r, s1, s2] w fun v w' => ∃ m, Ow w.heap.size w' v m ∧ tr m = m ∧ co m = nw (fun j => l1.getD j 0) (fun j => l2.getD j 0) 0 l1.length ∧ m.length ≤ l1.length ∧ RowKit.Below w.heap.size w w' := by
  obtain ⟨b, mv, iv, rfl, -, -, -⟩ := id hr
  generalize hX : (fun j => l1.getD j 0) = X
  generalize hY : (fun j => l2.getD j 0) = Y
  have gX : ∀ j (h : j < l1.length), l1[j] = X j := fun j h => by rw [← hX]; show _ = l1.getD j 0; rw [List.getD_eq_getElem?_getD, List.getElem?_eq_getElem h]; rfl
  have hnx : ∀ a b, a < l1.length → b < l1.length → X a = X b → a = b := by rw [← hX]; exact hnd
  refine run_polys_Ring_b_newton (by simp) ?_
  simp only [c_polys_Ring_b_newton, WS, ↓reduceIte, Nat.reduceEqDiff, reduceCtorEq, h1.Xlen]
  refine (Ow.nil w.heap.size w).Xapp h2 (Nat.le_refl _) (by simp only [List.length_nil, maxBytes]; omega) (by simp only [List.length_nil]; omega) fun sd w1 od hg hnear => ?_
  have B : RowKit.Below w.heap.size w w1 := (RowKit.Below.refl _ _).grown hg (Nat.le_refl _) fun b hb => by cases hb
  rw [List.nil_append] at od
  simp (maxSteps := 1000000) (disch := omega) only [WS, ↓reduceIte, Nat.reduceEqDiff, reduceCtorEq, AS]
  refine loop_of (fun t w' => t 0 = .pointer (some ⟨b, 0, none⟩) ∧ t 1 = s1 ∧ t 7 = .int .i64 (l1.length : Int) ∧ t 8 = sd ∧ RowKit.Below w.heap.size w w' ∧ ∃ (k : Nat) (D : List (El 8)), t 9 = .int .i64 (k : Int) ∧ 1 ≤ k ∧ k ≤ l1.length + 1 ∧ Ow w.heap.size w' sd D ∧ D.length = l1.length ∧ ∀ j, j < l1.length → D.getD j 0 = dd X Y (min j (k - 1)) j)
    (fun t _ => l1.length + 1 - (toI (t 9)).toNat) ⟨by simp only [WS, ↓reduceIte, Nat.reduceEqDiff, reduceCtorEq], by simp only [WS, ↓reduceIte, Nat.reduceEqDiff, reduceCtorEq], by simp only [WS, ↓reduceIte, Nat.reduceEqDiff, reduceCtorEq], by simp only [WS, ↓reduceIte, Nat.reduceEqDiff, reduceCtorEq], B, 1, l2, rfl, by omega, by omega, od, hl, fun j hj => by rw [← hY, Nat.sub_self, Nat.min_zero]; rfl⟩ ?_
  clear B od hg hnear
  rintro t w2 ⟨t0, t1, t7, t8, B, k, D, t9, hk1, hk2, od, hD, hDv⟩
  by_cases hkn : k < l1.length
  · simp (maxSteps := 1000000) (disch := omega) only [WS, ↓reduceIte, Nat.reduceEqDiff, reduceCtorEq, AS, t0, t1, t7, t8, t9]
    refine loop_of (fun t w' => t 0 = .pointer (some ⟨b, 0, none⟩) ∧ t 1 = s1 ∧ t 7 = .int .i64 (l1.length : Int) ∧ t 8 = sd ∧ t 9 = .int .i64 (k : Int) ∧ RowKit.Below w.heap.size w w' ∧ ∃ (i : Nat) (D : List (El 8)), t 10 = .int .i64 (i : Int) ∧ k ≤ i + 1 ∧ i < l1.length ∧ Ow w.heap.size w' sd D ∧ D.length = l1.length ∧ ∀ j, j < l1.length → D.getD j 0 = if i < j then dd X Y (min j k) j else dd X Y (min j (k - 1)) j)
      (fun t _ => (toI (t 10)).toNat) ⟨by simp only [WS, ↓reduceIte, Nat.reduceEqDiff, reduceCtorEq]; exact t0, by simp only [WS, ↓reduceIte, Nat.reduceEqDiff, reduceCtorEq]; exact t1, by simp only [WS, ↓reduceIte, Nat.reduceEqDiff, reduceCtorEq]; exact t7, by simp only [WS, ↓reduceIte, Nat.reduceEqDiff, reduceCtorEq]; exact t8, by simp only [WS, ↓reduceIte, Nat.reduceEqDiff, reduceCtorEq]; exact t9, B, l1.length - 1, D, by rw [show ((l1.length - 1 : Nat) : Int) = (l1.length : Int) - 1 by omega]; rfl, by omega, by omega, od, hD, fun j hj => by rw [if_neg (by omega)]; exact hDv j hj⟩ ?_
    clear t0 t1 t7 t8 t9 B od hD hDv D
    rintro t w3 ⟨t0, t1, t7, t8, t9, B, i, D, t10, hki, hil, od, hD, hDv⟩
    by_cases hge : k ≤ i
    · have hne : X i + X (i - k) ≠ 0 := fun e => by
        have := hnx _ _ hil (by omega) (El.eq_of_add0 e)
        omega
      have hik : i - k < l1.length := by omega
      obtain ⟨b', mv', iv', hbe, hrow', hm', hi'⟩ := hr.up B
      cases hbe
      have p1 := (h1.up B).drew
      have hne' : l1[i] + l1[i - k] ≠ 0 := by rw [gX i hil, gX _ hik]; exact hne
      have wik : IntKind.i64.wrap ((i - k : Nat) : Int) = ((i - k : Nat) : Int) := wrap_id (by omega) (by omega)
      have wi1 : IntKind.i64.wrap ((i - 1 : Nat) : Int) = ((i - 1 : Nat) : Int) := wrap_id (by omega) (by omega)
      simp (maxSteps := 1000000) (disch := omega) only [WS, ↓reduceIte, Nat.reduceEqDiff, reduceCtorEq, AS, t0, t1, t7, t8, t9, t10]
      refine WP_dops ?_
      simp (maxSteps := 1000000) (disch := omega) only [ES, List.mem_cons, List.not_mem_nil, implies_true, forall_const, WS, ↓reduceIte, Nat.reduceEqDiff, reduceCtorEq, AS, t0, t1, t7, t8, t9, t10, wik, addr_add0, Nat.zero_add, show (i : Int) - (k : Int) = ((i - k : Nat) : Int) from by omega, hrow'.drew.Eld (show 1 < [mv', iv'].length by simp), p1.Eix hil, p1.Eld hil, p1.Eix hik, p1.Eld hik, cell_e8, xor8]
      refine E_callK (Inv_b.call (w := w3.drew) hi' _ hne' fun w4 hlk => ?_)
      have hL : Like w3 w4 := (Like.drew w3).trans hlk
      have od := hL.ow od
      have B := hL.bel B B.size
      clear hrow' hm' hi' p1 hlk hL
      obtain ⟨b', mv', iv', hbe, hrow', hm', hi'⟩ := hr.up B
      cases hbe
      have iD : i < D.length := by omega
      have iD1 : i - 1 < D.length := by omega
      simp (maxSteps := 1000000) (disch := omega) only [ES, List.mem_cons, List.not_mem_nil, implies_true, forall_const, WS, ↓reduceIte, Nat.reduceEqDiff, reduceCtorEq, AS, t0, t1, t7, t8, t9, t10]
      refine WP_dops ?_
      have p2 := od.sl.drew
      simp (maxSteps := 1000000) (disch := omega) only [ES, List.mem_cons, List.not_mem_nil, implies_true, forall_const, WS, ↓reduceIte, Nat.reduceEqDiff, reduceCtorEq, AS, t0, t1, t7, t8, t9, t10, addr_add0, Nat.zero_add, wi1, show (i : Int) - 1 = ((i - 1 : Nat) : Int) from by omega, hrow'.drew.Eld (show 0 < [mv', iv'].length by simp), p2.Eix iD, p2.Eld iD, p2.Eix iD1, p2.Eld iD1, cell_e8, xor8]
      refine E_callK (Mul_b.call (w := w4.drew) hm' _ _ fun w5 hlk => ?_)
      have hL : Like w4 w5 := (Like.drew w4).trans hlk
      have od := hL.ow od
      have B := hL.bel B B.size
      have p3 := od.sl
      simp (maxSteps := 1000000) (disch := omega) only [ES, List.mem_cons, List.not_mem_nil, implies_true, forall_const, WS, ↓reduceIte, Nat.reduceEqDiff, reduceCtorEq, AS, t0, t1, t7, t8, t9, t10, p3.Eix iD]
      refine Ow.Est od iD ((D[i] + D[i - 1]) * (l1[i] + l1[i - k]).inv) fun w6 od6 hg6 => ?_
      simp (maxSteps := 1000000) (disch := omega) only [ES, List.mem_cons, List.not_mem_nil, implies_true, forall_const, WS, ↓reduceIte, Nat.reduceEqDiff, reduceCtorEq, AS, t0, t1, t7, t8, t9, t10, wi1, show (i : Int) - 1 = ((i - 1 : Nat) : Int) from by omega]
      refine ⟨⟨B.grown hg6 B.size fun b hb => (od.blk b hb).1, i - 1, _, rfl, by omega, by omega, od6, by rw [List.length_set]; exact hD, fun j hj => ?_⟩, by omega⟩
      have eD : ∀ q (h : q < D.length), D[q] = D.getD q 0 := fun q h => by rw [List.getD_eq_getElem?_getD, List.getElem?_eq_getElem h]; rfl
      by_cases hji : j = i
      · subst hji
        rw [List.getD_eq_getElem?_getD, List.getElem?_set_self iD, if_pos (by omega), show min j k = k - 1 + 1 by omega]
        show (D[j] + D[j - 1]) * (l1[j] + l1[j - k]).inv = (dd X Y (k - 1) j + dd X Y (k - 1) (j - 1)) * (X j + X (j - (k - 1 + 1))).inv
        rw [eD j iD, eD _ iD1, hDv j hil, hDv (j - 1) (by omega), if_neg (by omega), if_neg (by omega), show min j (k - 1) = k - 1 by omega, show min (j - 1) (k - 1) = k - 1 by omega, gX j hil, gX _ hik, show k - 1 + 1 = k by omega]
      · rw [List.getD_eq_getElem?_getD, List.getElem?_set_ne (by omega), ← List.getD_eq_getElem?_getD, hDv j hj]
        by_cases h1 : i < j
        · rw [if_pos h1, if_pos (by omega)]
        · rw [if_neg h1, if_neg (by omega)]
    · simp (maxSteps := 1000000) (disch := omega) only [WS, ↓reduceIte, Nat.reduceEqDiff, reduceCtorEq, AS, t0, t1, t7, t8, t9, t10]
      refine ⟨⟨B, k + 1, D, rfl, by omega, by omega, od, hD, fun j hj => ?_⟩, by omega⟩
      rw [hDv j hj, Nat.add_sub_cancel]
      by_cases h1 : i < j
      · rw [if_pos h1]
      · rw [if_neg h1, show min j (k - 1) = min j k by omega]
  · have hDv : ∀ j, j < l1.length → D.getD j 0 = dd X Y j j := fun j hj => by rw [hDv j hj, show min j (k - 1) = j by omega]
    clear hnd
    obtain ⟨n, hn⟩ : ∃ n, n = l1.length := ⟨_, rfl⟩
    obtain ⟨hz, hz0, hzs⟩ : ∃ hz : Nat → Ps 8, hz 0 = 0 ∧ ∀ d, hz (d + 1) = hz d * lin (X (l1.length - 1 - d)) + Ps.C (dd X Y (l1.length - 1 - d) (l1.length - 1 - d)) := ⟨fun d => Nat.rec 0 (fun d f => f * lin (X (l1.length - 1 - d)) + Ps.C (dd X Y (l1.length - 1 - d) (l1.length - 1 - d))) d, rfl, fun d => rfl⟩
    have hall : hz l1.length = nw X Y 0 l1.length := by
      have := nw_all X Y l1.length (fun k => hz (l1.length - k)) (by rw [Nat.sub_self]; exact hz0) fun k hk => by
        show hz (l1.length - k) = hz (l1.length - (k + 1)) * _ + _
        rw [show l1.length - k = l1.length - (k + 1) + 1 by omega, hzs, show l1.length - 1 - (l1.length - (k + 1)) = k by omega]
      exact this
    simp (maxSteps := 1000000) (disch := omega) only [WS, ↓reduceIte, Nat.reduceEqDiff, reduceCtorEq, AS, t0, t1, t7, t8, t9]
    refine X_mks0 (x := (0 : El 8)) (by simp only [maxBytes]; omega) (by omega) fun p0 w3 op hB => ?_
    simp (maxSteps := 1000000) (disch := omega) only [WS, ↓reduceIte, Nat.reduceEqDiff, reduceCtorEq, AS, t0, t1, t7, t8, t9]
    refine loop_of (fun t w' => t 0 = .pointer (some ⟨b, 0, none⟩) ∧ t 1 = s1 ∧ t 8 = sd ∧ RowKit.Below w2.heap.size w2 w' ∧ ∃ (k : Nat) (p : Value) (P : List (El 8)), t 14 = .int .i64 ((k : Int) - 1) ∧ k ≤ l1.length ∧ t 13 = p ∧ Ow w2.heap.size w' p P ∧ P.length = l1.length - k ∧ co P = hz (l1.length - k))
      (fun t _ => (toI (t 14) + 1).toNat) ⟨by simp only [WS, ↓reduceIte, Nat.reduceEqDiff, reduceCtorEq]; exact t0, by simp only [WS, ↓reduceIte, Nat.reduceEqDiff, reduceCtorEq]; exact t1, by simp only [WS, ↓reduceIte, Nat.reduceEqDiff, reduceCtorEq]; exact t8, hB, l1.length, p0, [], by simp only [WS, ↓reduceIte, Nat.reduceEqDiff, reduceCtorEq]; rw [wrap_id (by omega) (by omega)], by omega, by simp only [WS, ↓reduceIte, Nat.reduceEqDiff, reduceCtorEq], op, by simp, by rw [Nat.sub_self, hz0]; rfl⟩ ?_
    clear t0 t1 t7 t8 t9 op hB
    rintro t w4 ⟨t0, t1, t8, C, k, p, P, t14, hk, t13, op, hP, hPc⟩
    rcases Nat.eq_zero_or_pos k with rfl | hkp
    · have B4 := B.trans (C.mono B.size)
      simp (maxSteps := 1000000) (disch := omega) only [WS, ↓reduceIte, Nat.reduceEqDiff, reduceCtorEq, AS, t0, t1, t8, t14, t13, show decide ((0 : Int) ≤ ((0 : Nat) : Int) - 1) = false from rfl]
      refine X_call0 ((polys_copied_b_spec w4 p P op.sl (by omega)).mono ?_)
      rintro v w5 ⟨ov, hB⟩
      simp (maxSteps := 1000000) (disch := omega) only [WS, ↓reduceIte, Nat.reduceEqDiff, reduceCtorEq, AS]
      refine ⟨tr P, ov.mono B4.size, tr_tr P, by rw [tr_co, hPc, Nat.sub_zero]; exact hall, by rw [tr_len]; have := tln_le P; omega, B4.trans (hB.mono B4.size)⟩
    obtain ⟨q, rfl⟩ : ∃ q, k = q + 1 := ⟨k - 1, by omega⟩
    have e1 : ((q + 1 : Nat) : Int) - 1 = (q : Int) := by omega
    rw [e1] at t14
    have hq : q < l1.length := by omega
    have hqD : q < D.length := by omega
    simp (maxSteps := 1000000) (disch := omega) only [WS, ↓reduceIte, Nat.reduceEqDiff, reduceCtorEq, AS, t0, t1, t8, t14, t13]
    refine X_bsl (zs := [(0 : El 8)]) rfl rfl fun z w5 hoz hB2 => ?_
    simp (maxSteps := 1000000) (disch := omega) only [WS, ↓reduceIte, Nat.reduceEqDiff, reduceCtorEq, AS, t0, t1, t8, t14, t13]
    refine Ow.Xapp (op.up hB2) hoz.sl (Nat.le_trans C.size hB2.size) (by simp only [maxBytes, List.length_singleton]; omega) (by simp only [List.length_singleton]; omega) fun p' w6 op' hg hnear => ?_
    have C6 := (C.trans (hB2.mono C.size)).grown hg (Nat.le_trans C.size hB2.size) fun b hb => (op.blk b hb).1
    have hql : (P ++ [(0 : El 8)]).length = P.length + 1 := by simp
    simp (maxSteps := 1000000) (disch := omega) only [WS, ↓reduceIte, Nat.reduceEqDiff, reduceCtorEq, AS, t0, t1, t8, t14, t13, op'.sl.Xlen, hql]
    refine loop_of (fun t w' => t 0 = .pointer (some ⟨b, 0, none⟩) ∧ t 1 = s1 ∧ t 8 = sd ∧ t 13 = p' ∧ t 14 = .int .i64 (q : Int) ∧ RowKit.Below w2.heap.size w2 w' ∧ ∃ (j : Nat) (ms : List (El 8)), t 15 = .int .i64 (j : Int) ∧ j ≤ P.length ∧ Ow w2.heap.size w' p' ms ∧ ms.length = P.length + 1 ∧ ∀ u, (co ms).c u = if u ≤ j then (co P).c u else (lin (X q) * co P).c u)
      (fun t _ => (toI (t 15)).toNat) ⟨by simp only [WS, ↓reduceIte, Nat.reduceEqDiff, reduceCtorEq]; exact t0, by simp only [WS, ↓reduceIte, Nat.reduceEqDiff, reduceCtorEq]; exact t1, by simp only [WS, ↓reduceIte, Nat.reduceEqDiff, reduceCtorEq]; exact t8, by simp only [WS, ↓reduceIte, Nat.reduceEqDiff, reduceCtorEq], by simp only [WS, ↓reduceIte, Nat.reduceEqDiff, reduceCtorEq]; exact t14, C6, P.length, _, by simp only [WS, ↓reduceIte, Nat.reduceEqDiff, reduceCtorEq]; rw [Nat.add_sub_cancel], Nat.le_refl _, op', hql, fun u => by
        have e : co (P ++ [(0 : El 8)]) = co P := co_append_zeros P 1
        rw [e]
        by_cases hu : u ≤ P.length
        · rw [if_pos hu]
        · rw [if_neg hu, co_dg P u (by omega), lin_mul, co_dg P u (by omega), El.mul_zero, if_neg (by omega), co_dg P (u - 1) (by omega), El.add_zero]⟩ ?_
    clear t0 t1 t8 t14 t13 C6 op' hg hnear hB2 hoz
    rintro t w7 ⟨t0, t1, t8, t13, t14, C7, j, ms, t15, hj, om, hml, hmc⟩
    have B7 := B.trans (C7.mono B.size)
    obtain ⟨b', mv', iv', hbe, hrow', hm', -⟩ := hr.up B7
    cases hbe
    have hos := om.sl.drew
    have p1 := (h1.up B7).drew
    have dS := (od.up C7).sl
    rcases Nat.eq_zero_or_pos j with rfl | hp
    · have h0 : 0 < ms.length := by omega
      simp (maxSteps := 1000000) (disch := omega) only [WS, ↓reduceIte, Nat.reduceEqDiff, reduceCtorEq, AS, t0, t1, t8, t13, t14, t15]
      refine WP_dops ?_
      simp (maxSteps := 1000000) (disch := omega) only [ES, List.mem_cons, List.not_mem_nil, implies_true, forall_const, WS, ↓reduceIte, Nat.reduceEqDiff, reduceCtorEq, AS, t0, t1, t8, t13, t14, t15, addr_add0, Nat.zero_add, hrow'.drew.Eld (show 0 < [mv', iv'].length by simp), hos.Eix0 h0, hos.Eld h0, p1.Eix hq, p1.Eld hq, cell_e8]
      refine E_callK (Mul_b.call (w := w7.drew) hm' _ _ fun w8 hlk => ?_)
      have hos8 := hlk.sl hos
      have ds8 := hlk.sl dS.drew
      have see := dS.drew.sees hqD Try.prog
      rw [cell_e8] at see
      simp (maxSteps := 1000000) (disch := omega) only [ES, List.mem_cons, List.not_mem_nil, implies_true, forall_const, WS, ↓reduceIte, Nat.reduceEqDiff, reduceCtorEq, AS, t0, t1, t8, t13, t14, t15, hos8.Eix0 h0, ds8.Eix hqD, ds8.Eld hqD, cell_e8, see, xor8]
      refine Ow.Est (hlk.ow om.drew) h0 (ms[0] * l1[q] + D[q]) fun w9 om9 hg9 => ?_
      have C9 : RowKit.Below w2.heap.size w2 w9 := (hlk.bel (C7.trans ((bel_drew w7).mono C7.size)) C7.size).grown hg9 (by rw [hlk.size]; exact C7.size) fun b hb => (om.blk b hb).1
      have wq : IntKind.i64.wrap ((q : Int) - 1) = (q : Int) - 1 := wrap_id (by omega) (by omega)
      simp (maxSteps := 1000000) (disch := omega) only [ES, List.mem_cons, List.not_mem_nil, implies_true, forall_const, WS, ↓reduceIte, Nat.reduceEqDiff, reduceCtorEq, AS, t0, t1, t8, t13, t14, t15, wq]
      refine ⟨⟨C9, q, p', _, rfl, by omega, rfl, om9, by rw [List.length_set]; omega, ?_⟩, by omega⟩
      rw [show l1.length - q = l1.length - (q + 1) + 1 by omega, hzs, ← hPc, show l1.length - 1 - (l1.length - (q + 1)) = q by omega]
      have eD : D[q] = dd X Y q q := by rw [← hDv q hq, List.getD_eq_getElem?_getD, List.getElem?_eq_getElem hqD]; rfl
      refine Ps.ext fun u => ?_
      rw [co_set _ h0, hmc u, Ps.add_c, Ps.mul_comm (co P)]
      by_cases hu : u = 0
      · subst hu
        have g0 := hmc 0
        rw [if_pos (Nat.le_refl _), co_get ms h0] at g0
        rw [if_pos rfl, lin_mul, if_pos rfl, El.add_zero, g0, gX q hq, El.mul_comm, eD]
        rfl
      · rw [if_neg hu, if_neg (by omega), show (Ps.C (dd X Y q q)).c u = 0 from if_neg hu, El.add_zero]
    · obtain ⟨j, rfl⟩ : ∃ k, j = k + 1 := ⟨j - 1, by omega⟩
      have hj1 : j + 1 < ms.length := by omega
      have hj0 : j < ms.length := by omega
      have wj : IntKind.i64.wrap (((j + 1 : Nat) : Int) - 1) = (j : Int) := by rw [wrap_id (by omega) (by omega)]; omega
      have wj2 : ((j + 1 : Nat) : Int) - 1 = (j : Int) := by omega
      simp (maxSteps := 1000000) (disch := omega) only [WS, ↓reduceIte, Nat.reduceEqDiff, reduceCtorEq, AS, t0, t1, t8, t13, t14, t15]
      refine WP_dops ?_
      simp only [ES, List.mem_cons, List.not_mem_nil, implies_true, forall_const, WS, ↓reduceIte, Nat.reduceEqDiff, reduceCtorEq, t0, t1, t8, t13, t14, t15, wj, addr_add0, Nat.add_zero, hrow'.drew.Eld (show 0 < [mv', iv'].length by simp), hos.Eix hj0, hos.Eld hj0, hos.Eix hj1, hos.Eld hj1, p1.Eix hq, p1.Eld hq, cell_e8]
      refine E_callK (Mul_b.call (w := w7.drew) hm' _ _ fun w8 hlk => ?_)
      have hos8 := hlk.sl hos
      have hsee := hos8.sees hj0 Try.prog
      rw [cell_e8] at hsee
      simp only [ES, List.mem_cons, List.not_mem_nil, implies_true, forall_const, WS, ↓reduceIte, Nat.reduceEqDiff, reduceCtorEq, hsee, xor8, hos8.Eix hj1]
      refine Ow.Est (hlk.ow om.drew) hj1 (ms[j] + ms[j + 1] * l1[q]) fun w9 om9 hg9 => ?_
      have C9 : RowKit.Below w2.heap.size w2 w9 := (hlk.bel (C7.trans ((bel_drew w7).mono C7.size)) C7.size).grown hg9 (by rw [hlk.size]; exact C7.size) fun b hb => (om.blk b hb).1
      simp only [ES, List.mem_cons, List.not_mem_nil, implies_true, forall_const, WS, ↓reduceIte, Nat.reduceEqDiff, reduceCtorEq, t0, t1, t8, t13, t14, t15, wj, toI_int]
      refine ⟨⟨C9, j, _, rfl, by omega, om9, by rw [List.length_set]; exact hml, fun u => ?_⟩, by omega⟩
      rw [co_set _ hj1, hmc u]
      by_cases hu : u = j + 1
      · subst hu
        have g1 := hmc (j + 1)
        have g0 := hmc j
        rw [if_pos (Nat.le_refl _), co_get ms hj1] at g1
        rw [if_pos (by omega), co_get ms hj0] at g0
        rw [if_pos rfl, if_neg (by omega), lin_mul, if_neg (by omega), Nat.add_sub_cancel, g1, g0, gX q hq, El.add_comm, El.mul_comm]
      · rw [if_neg hu]
        by_cases huj : u ≤ j
        · rw [if_pos (by omega), if_pos huj]
        · rw [if_neg (by omega), if_neg huj]
end Go.Proofs.Ytbaljbadlfopgaa.Fw

namespace Go.Proofs.Ytbaljbadlfopgaa.Fw
open Go Go.Fw
theorem polys_Ring_b_Interpolate_spec (w : World) (r s1 s2 : Value) (l1 l2 : List (El 8)) (hr : Ring_b w r) (h1 : Sl w s1 l1) (h2 : Sl w s2 l2) (hb1 : l1.length ≤ 70368744175616) (hb2 : l2.length ≤ 70368744175616) :
    CallV Try.prog 56 [r, s1, s2] w fun v w' => RowKit.Below w.heap.size w w' ∧
      ((l1.length ≤ 1024 ∧ l2.length ≤ 1024 ∧ l2.length = l1.length ∧ (∀ a b, a < l1.length → b < l1.length → l1.getD a 0 = l1.getD b 0 → a = b) ∧ ∃ s m, v = .tuple #[s, .int .i64 0] ∧ Ow w.heap.size w' s m ∧ tr m = m ∧ co m = nw (fun j => l1.getD j 0) (fun j => l2.getD j 0) 0 l1.length ∧ m.length ≤ l1.length) ∨
       (l1.length ≤ 1024 ∧ l2.length ≤ 1024 ∧ l2.length ≠ l1.length ∧ v = .tuple #[.slice none 0 0, .int .i64 6]) ∨
       (l1.length ≤ 1024 ∧ l2.length ≤ 1024 ∧ l2.length = l1.length ∧ ¬ (∀ a b, a < l1.length → b < l1.length → l1.getD a 0 = l1.getD b 0 → a = b) ∧ v = .tuple #[.slice none 0 0, .int .i64 41]) ∨
       (¬ (l1.length ≤ 1024 ∧ l2.length ≤ 1024) ∧ v = .tuple #[.slice none 0 0, .int .i64 5])) := by
  have h10 := h1
  have h20 := h2
  have hr0 := hr
  refine run_polys_Ring_b_Interpolate (by simp) ?_
  simp only [c_polys_Ring_b_Interpolate, WS, ↓reduceIte, Nat.reduceEqDiff, reduceCtorEq]
  obtain ⟨e1, n1⟩ := h1.hd
  obtain ⟨e2, n2⟩ := h2.hd
  refine X_bsl (zs := [hd s1, hd s2]) (fill2 h1 h2) rfl fun ls w1 ho hB => ?_
  obtain ⟨b, mv, iv, rfl, -, -⟩ := id hr
  simp only [WS, ↓reduceIte, Nat.reduceEqDiff, reduceCtorEq]
  refine X_call0 ((polys_Ring_b_refuses_spec w1 _ ls _ ho.sl (by simp) (by simp [n1, n2]; omega)).mono ?_)
  rintro v w' ⟨rfl, rfl⟩
  have hiff : (∀ x ∈ [hd s1, hd s2], x.n ≤ 1024) = (l1.length ≤ 1024 ∧ l2.length ≤ 1024) := by simp [n1, n2]
  by_cases hsz : l1.length ≤ 1024 ∧ l2.length ≤ 1024
  rotate_left
  · rw [if_neg (fun e => hsz (hiff.mp e))]
    simp only [WS, ↓reduceIte, Nat.reduceEqDiff, reduceCtorEq, show decide ((5 : Int) = 0) = false from rfl]
    exact ⟨hB, Or.inr (Or.inr (Or.inr hsz))⟩
  rw [if_pos (hiff.mpr hsz)]
  obtain ⟨z1, z2⟩ := hsz
  have h1 := h1.up hB
  have h2 := h2.up hB
  have hr := hr.up hB
  by_cases hlen : l2.length = l1.length
  rotate_left
  · simp (maxSteps := 1000000) (disch := omega) only [WS, ↓reduceIte, Nat.reduceEqDiff, reduceCtorEq, AS, show decide ((0 : Int) = 0) = true from rfl, h1.Xlen, h2.Xlen]
    exact ⟨hB, Or.inr (Or.inl ⟨z1, z2, hlen⟩)⟩
  simp (maxSteps := 1000000) (disch := omega) only [WS, ↓reduceIte, Nat.reduceEqDiff, reduceCtorEq, AS, show decide ((0 : Int) = 0) = true from rfl, h1.Xlen, h2.Xlen, hlen, show ∀ e : Int, decide (e = e) = true from fun e => decide_eq_true rfl]
  refine X_mkm .u8 .i64 fun rr w2 hM hrr hB2 => ?_
  have B := hB.trans (hB2.mono hB.size)
  have hrr : w.heap.size ≤ rr := Nat.le_trans hB.size hrr
  have C := hB2
  simp (maxSteps := 1000000) (disch := omega) only [WS, ↓reduceIte, Nat.reduceEqDiff, reduceCtorEq, AS, h1.Xlen, (h1.up C).Xlen]
  refine loop_of (fun t w' => t 0 = .pointer (some ⟨b, 0, none⟩) ∧ t 1 = s1 ∧ t 2 = s2 ∧ t 9 = .map (some rr) ∧ t 26 = s1 ∧ t 27 = .int .i64 (l1.length : Int) ∧ RowKit.Below w.heap.size w w' ∧ ∃ (i : Nat) (f : Int → Value), t 28 = .int .i64 (i : Int) ∧ i ≤ l1.length ∧ Mi .u8 .i64 w' (.map (some rr)) f ∧ (∀ j, j < i → f ((l1.getD j 0).v.toNat : Int) = .int .i64 1) ∧ (∀ n : Int, (∀ j, j < i → ((l1.getD j 0).v.toNat : Int) ≠ n) → f n = .int .i64 0) ∧ ∀ a b, a < i → b < i → l1.getD a 0 = l1.getD b 0 → a = b)
    (fun t _ => l1.length - (toI (t 28)).toNat) ⟨by simp only [WS, ↓reduceIte, Nat.reduceEqDiff, reduceCtorEq], by simp only [WS, ↓reduceIte, Nat.reduceEqDiff, reduceCtorEq], by simp only [WS, ↓reduceIte, Nat.reduceEqDiff, reduceCtorEq], by simp only [WS, ↓reduceIte, Nat.reduceEqDiff, reduceCtorEq], by simp only [WS, ↓reduceIte, Nat.reduceEqDiff, reduceCtorEq], by simp only [WS, ↓reduceIte, Nat.reduceEqDiff, reduceCtorEq], B, 0, _, rfl, by omega, hM, fun j hj => by omega, fun n _ => rfl, fun a b ha => by omega⟩ ?_
  clear B C hB2 hM
  rintro t w3 ⟨t0, t1, t2, t9, t26, t27, B, i, f, t28, hi, hM, hf1, hf0, hnd⟩
  by_cases hlt : i < l1.length
  · have h3 : Sl w3 s1 l1 := (h10.up B)
    have gx : l1.getD i 0 = l1[i] := by rw [List.getD_eq_getElem?_getD, List.getElem?_eq_getElem hlt]; rfl
    by_cases hin : ∃ j, j < i ∧ l1.getD j 0 = l1.getD i 0
    · obtain ⟨j, hj, hje⟩ := hin
      have hv : f ((l1[i]).v.toNat : Int) = .int .i64 1 := by rw [← gx, ← hje]; exact hf1 j hj
      simp (maxSteps := 1000000) (disch := omega) only [WS, ↓reduceIte, Nat.reduceEqDiff, reduceCtorEq, AS, t0, t1, t2, t9, t26, t27, t28, h3.Xix hlt, h3.Xld hlt, cell_e8, hM.Xlk ((l1[i]).v.toNat : Int), hv]
      refine Mi.Xup hM ((l1[i]).v.toNat : Int) _ fun w4 hM4 hg => ?_
      have B := B.grown hg B.size fun b hb => by cases hb; exact hrr
      simp (maxSteps := 1000000) (disch := omega) only [WS, ↓reduceIte, Nat.reduceEqDiff, reduceCtorEq, AS, t0, t1, t2, t9, t26, t27, t28, hM4.Xlk ((l1[i]).v.toNat : Int), if_pos, show IntKind.i64.wrap (1 + 1) = 2 from rfl, show decide ((1 : Int) < 2) = true from rfl]
      exact ⟨B, Or.inr (Or.inr (Or.inl ⟨z1, z1, fun hall => by have := hall j i (by omega) hlt hje; omega⟩))⟩
    · have hno : ∀ j, j < i → ((l1.getD j 0).v.toNat : Int) ≠ ((l1[i]).v.toNat : Int) := fun j hj e => hin ⟨j, hj, by rw [gx]; exact El.ext (BitVec.eq_of_toNat_eq (by omega))⟩
      have hv : f ((l1[i]).v.toNat : Int) = .int .i64 0 := hf0 _ hno
      simp (maxSteps := 1000000) (disch := omega) only [WS, ↓reduceIte, Nat.reduceEqDiff, reduceCtorEq, AS, t0, t1, t2, t9, t26, t27, t28, h3.Xix hlt, h3.Xld hlt, cell_e8, hM.Xlk ((l1[i]).v.toNat : Int), hv]
      refine Mi.Xup hM ((l1[i]).v.toNat : Int) _ fun w4 hM4 hg => ?_
      have B := B.grown hg B.size fun b hb => by cases hb; exact hrr
      simp (maxSteps := 1000000) (disch := omega) only [WS, ↓reduceIte, Nat.reduceEqDiff, reduceCtorEq, AS, t0, t1, t2, t9, t26, t27, t28, hM4.Xlk ((l1[i]).v.toNat : Int), if_pos, show IntKind.i64.wrap (0 + 1) = 1 from rfl, show decide ((1 : Int) < 1) = false from rfl]
      refine ⟨⟨B, i + 1, _, rfl, by omega, hM4, fun j hj => ?_, fun n hn => ?_, fun a b ha hb e => ?_⟩, by omega⟩
      · by_cases hji : j = i
        · subst hji; rw [gx]; exact if_pos rfl
        · rw [if_neg (by have := hno j (by omega); exact this)]; exact hf1 j (by omega)
      · have hni := hn i (by omega)
        rw [gx] at hni
        rw [if_neg (fun e => hni e.symm)]
        exact hf0 n fun j hj => hn j (by omega)
      · by_cases hai : a = i
        · by_cases hbi : b = i
          · rw [hai, hbi]
          · exact absurd ⟨b, by omega, by rw [← hai]; exact e.symm⟩ hin
        · by_cases hbi : b = i
          · exact absurd ⟨a, by omega, by rw [← hbi]; exact e⟩ hin
          · exact hnd a b (by omega) (by omega) e
  · obtain rfl : i = l1.length := by omega
    simp (maxSteps := 1000000) (disch := omega) only [WS, ↓reduceIte, Nat.reduceEqDiff, reduceCtorEq, AS, t0, t1, t2, t9, t26, t27, t28]
    refine X_call0 ((polys_Ring_b_newton_spec w3 _ s1 s2 l1 l2 (hr0.up B) (h10.up B) (h20.up B) (by omega) hlen hnd).mono ?_)
    rintro v w4 ⟨m, om, tm, cm, lm, hB⟩
    simp (maxSteps := 1000000) (disch := omega) only [WS, ↓reduceIte, Nat.reduceEqDiff, reduceCtorEq, AS]
    exact ⟨B.trans (hB.mono B.size), Or.inl ⟨z1, z1, hnd, _, m, rfl, om.mono B.size, tm, cm, lm⟩⟩
end Go.Proofs.Ytbaljbadlfopgaa.Fw

set_option linter.unusedVariables false
set_option linter.unusedSimpArgs false
set_option maxRecDepth 100000
set_option maxHeartbeats 1000000
namespace Go.Proofs.Ytbaljbadlfopgaa.Fw
open Go Go.Fw Go.Proofs
attribute [local irreducible] stepI
def c_polys_Ring_b_DivMod : C := .seq (.ops [⟨0,some 6,none,.mov (.c (.slice none 0 0)),[]⟩,⟨1,some 7,none,.mov (.c (.slice none 0 0)),[]⟩,⟨2,some 8,none,.mov (.c (.int .i64 0)),[]⟩]) (.seq (.seq (.ops [⟨0,some 10,none,.mov (.t 0),[]⟩,⟨1,some 11,none,.mov (.t 1),[]⟩,⟨2,some 12,none,.mov (.t 2),[]⟩,⟨3,some 13,none,.bsl 25 2 [.slice none 0 0] [(0,(1,.t 11)),(1,(1,.t 12))],[]⟩,⟨4,some 14,none,.call (.c (.func (.func 87) #[] #[])) [.t 10,.t 13],[]⟩,⟨5,some 9,none,.mov (.t 14),[]⟩]) (.seq (.ops [⟨0,some 15,none,.mov (.t 9),[]⟩,⟨1,some 16,none,.bin .neq (.t 15) (.c (.int .i64 0)),[]⟩]) (.ite (.t 16) (.seq (.ops [⟨0,some 17,none,.mov (.t 9),[]⟩,⟨1,some 6,none,.mov (.c (.slice none 0 0)),[]⟩,⟨2,some 7,none,.mov (.c (.slice none 0 0)),[]⟩,⟨3,some 8,none,.mov (.t 17),[]⟩]) .ret) .skip))) (.seq (.seq (.ops [⟨0,some 18,none,.mov (.t 2),[]⟩,⟨1,some 19,none,.call (.c (.func (.func 130) #[] #[])) [.t 18],[]⟩,⟨2,some 20,none,.bin .lss (.t 19) (.c (.int .i64 0)),[]⟩]) (.ite (.t 20) (.seq (.ops [⟨0,some 6,none,.mov (.c (.slice none 0 0)),[]⟩,⟨1,some 7,none,.mov (.c (.slice none 0 0)),[]⟩,⟨2,some 8,none,.mov (.c (.int .i64 40)),[]⟩]) .ret) .skip)) (.seq (.ops [⟨0,some 22,none,.mov (.t 0),[]⟩,⟨1,some 23,none,.mov (.t 1),[]⟩,⟨2,some 24,none,.mov (.t 2),[]⟩,⟨3,some 25,none,.call (.c (.func (.func 127) #[] #[])) [.t 22,.t 23,.t 24],[]⟩,⟨4,some 21,none,.mov (.t 25),[]⟩,⟨5,some 26,none,.ext (.t 21) 0,[]⟩,⟨6,some 27,none,.ext (.t 21) 1,[]⟩,⟨7,some 6,none,.mov (.t 26),[]⟩,⟨8,some 7,none,.mov (.t 27),[]⟩]) (.seq (.ops [⟨0,some 28,none,.mov (.t 6),[]⟩,⟨1,some 29,none,.mov (.t 7),[]⟩,⟨2,some 6,none,.mov (.t 28),[]⟩,⟨3,some 7,none,.mov (.t 29),[]⟩,⟨4,some 8,none,.mov (.c (.int .i64 0)),[]⟩]) .ret))))
attribute [irreducible] c_polys_Ring_b_DivMod
theorem run_polys_Ring_b_DivMod {args : List Value} {w : World} {K : Value → World → Prop} (hn : args.length ≤ 30) (h : WP Try.prog c_polys_Ring_b_DivMod (endQ [.t 6, .t 7, .t 8] K) (initT args) w) : CallV Try.prog 91 args w K :=
  call_of follows Try.func91 (by kernel_rfl) (by kernel_rfl) hn h
def c_polys_Ring_b_divided : C := .seq (.ops [⟨0,some 6,none,.mov (.c (.slice none 0 0)),[]⟩,⟨1,some 7,none,.mov (.c (.slice none 0 0)),[]⟩]) (.seq (.ops [⟨0,some 14,none,.mov (.t 1),[]⟩,⟨1,some 15,none,.call (.c (.func (.func 125) #[] #[])) [.t 14],[]⟩,⟨2,some 7,none,.mov (.t 15),[]⟩]) (.seq (.ops [⟨0,some 16,none,.mov (.t 2),[]⟩,⟨1,some 17,none,.call (.c (.func (.func 130) #[] #[])) [.t 16],[]⟩,⟨2,some 8,none,.mov (.t 17),[]⟩]) (.seq (.dops [⟨0,some 19,none,.mov (.t 0),[]⟩,⟨1,some 20,none,.nil (.t 19),[]⟩,⟨2,some 21,none,.fad 1 (.t 20),[]⟩,⟨3,some 22,none,.ld (.t 21),[]⟩,⟨4,some 23,none,.mov (.t 2),[]⟩,⟨5,some 24,none,.mov (.t 8),[]⟩,⟨6,some 25,none,.ixs 1 (.t 23) (.t 24),[]⟩,⟨7,some 26,none,.ld (.t 25),[]⟩,⟨8,some 27,none,.call (.t 22) [.t 26],[]⟩,⟨9,some 18,none,.mov (.t 27),[]⟩,⟨10,some 28,none,.ext (.t 18) 0,[]⟩,⟨11,some 29,none,.ext (.t 18) 1,[]⟩,⟨12,some 9,none,.mov (.t 28),[]⟩,⟨13,some 10,none,.mov (.t 29),[]⟩]) (.seq (.seq (.ops [⟨0,some 30,none,.mov (.t 7),[]⟩,⟨1,some 31,none,.len (.t 30),[]⟩,⟨2,some 32,none,.mov (.t 8),[]⟩,⟨3,some 33,none,.bin .gtr (.t 31) (.t 32),[]⟩]) (.ite (.t 33) (.ops [⟨0,some 34,none,.mov (.t 7),[]⟩,⟨1,some 35,none,.len (.t 34),[]⟩,⟨2,some 36,none,.mov (.t 8),[]⟩,⟨3,some 37,none,.bin .sub (.t 35) (.t 36),[]⟩,⟨4,some 38,none,.mks 5 1 [.int .u8 0] (.t 37) (.t 37),[]⟩,⟨5,some 6,none,.mov (.t 38),[]⟩]) .skip)) (.seq (.seq (.ops [⟨0,some 39,none,.mov (.t 7),[]⟩,⟨1,some 40,none,.len (.t 39),[]⟩,⟨2,some 41,none,.bin .sub (.t 40) (.c (.int .i64 1)),[]⟩,⟨3,some 42,none,.mov (.t 8),[]⟩,⟨4,some 43,none,.bin .sub (.t 41) (.t 42),[]⟩,⟨5,some 11,none,.mov (.t 43),[]⟩]) (.block 0 (.loop (.seq (.seq (.ops [⟨0,some 44,none,.mov (.t 11),[]⟩,⟨1,some 45,none,.bin .geq (.t 44) (.c (.int .i64 0)),[]⟩]) (.ite (.t 45) .skip (.exit 0))) (.seq (.block 1 (.seq (.dops [⟨0,some 48,none,.mov (.t 0),[]⟩,⟨1,some 49,none,.nil (.t 48),[]⟩,⟨2,some 50,none,.fad 0 (.t 49),[]⟩,⟨3,some 51,none,.ld (.t 50),[]⟩,⟨4,some 52,none,.mov (.t 7),[]⟩,⟨5,some 53,none,.mov (.t 11),[]⟩,⟨6,some 54,none,.mov (.t 8),[]⟩,⟨7,some 55,none,.bin .add (.t 53) (.t 54),[]⟩,⟨8,some 56,none,.ixs 1 (.t 52) (.t 55),[]⟩,⟨9,some 57,none,.ld (.t 56),[]⟩,⟨10,some 58,none,.mov (.t 9),[]⟩,⟨11,some 59,none,.call (.t 51) [.t 57,.t 58],[]⟩,⟨12,some 12,none,.mov (.t 59),[]⟩]) (.seq (.ops [⟨0,some 60,none,.mov (.t 6),[]⟩,⟨1,some 61,none,.mov (.t 11),[]⟩,⟨2,some 62,none,.mov (.t 12),[]⟩,⟨3,some 63,none,.ixs 1 (.t 60) (.t 61),[]⟩,⟨4,none,none,.st (.t 63) (.t 62),[]⟩]) (.seq (.seq (.ops [⟨0,some 64,none,.mov (.t 12),[]⟩,⟨1,some 65,none,.bin .eql (.t 64) (.c (.int .u8 0)),[]⟩]) (.ite (.t 65) (.exit 1) .skip)) (.seq (.ops [⟨0,some 66,none,.mov (.t 8),[]⟩,⟨1,some 67,none,.bin .add (.t 66) (.c (.int .i64 1)),[]⟩,⟨2,some 68,none,.mov (.c (.int .i64 0)),[]⟩]) (.block 2 (.loop (.seq (.ops [⟨0,some 69,none,.bin .lss (.t 68) (.t 67),[]⟩]) (.seq (.ite (.t 69) .skip (.exit 2)) (.seq (.block 3 (.seq (.ops [⟨0,some 70,none,.mov (.t 68),[]⟩,⟨1,some 13,none,.mov (.t 70),[]⟩]) (.dops [⟨0,some 71,none,.mov (.t 7),[]⟩,⟨1,some 72,none,.mov (.t 11),[]⟩,⟨2,some 73,none,.mov (.t 13),[]⟩,⟨3,some 74,none,.bin .add (.t 72) (.t 73),[]⟩,⟨4,some 75,none,.ixs 1 (.t 71) (.t 74),[]⟩,⟨5,some 76,none,.ld (.t 75),[]⟩,⟨6,some 77,none,.mov (.t 0),[]⟩,⟨7,some 78,none,.nil (.t 77),[]⟩,⟨8,some 79,none,.fad 0 (.t 78),[]⟩,⟨9,some 80,none,.ld (.t 79),[]⟩,⟨10,some 81,none,.mov (.t 12),[]⟩,⟨11,some 82,none,.mov (.t 2),[]⟩,⟨12,some 83,none,.mov (.t 13),[]⟩,⟨13,some 84,none,.ixs 1 (.t 82) (.t 83),[]⟩,⟨14,some 85,none,.ld (.t 84),[]⟩,⟨15,some 86,none,.call (.t 80) [.t 81,.t 85],[5]⟩,⟨16,some 87,none,.bin .xor (.t 76) (.t 86),[]⟩,⟨17,some 88,none,.ixs 1 (.t 71) (.t 74),[]⟩,⟨18,none,none,.st (.t 88) (.t 87),[]⟩]))) (.ops [⟨0,some 89,none,.bin .add (.t 68) (.c (.int .i64 1)),[]⟩,⟨1,some 68,none,.mov (.t 89),[]⟩]))))))))))) (.ops [⟨0,some 46,none,.mov (.t 11),[]⟩,⟨1,some 47,none,.bin .sub (.t 46) (.c (.int .i64 1)),[]⟩,⟨2,some 11,none,.mov (.t 47),[]⟩])))))) (.seq (.ops [⟨0,some 90,none,.mov (.t 6),[]⟩,⟨1,some 91,none,.mov (.t 7),[]⟩,⟨2,some 92,none,.call (.c (.func (.func 125) #[] #[])) [.t 91],[]⟩,⟨3,some 6,none,.mov (.t 90),[]⟩,⟨4,some 7,none,.mov (.t 92),[]⟩]) .ret))))))
attribute [irreducible] c_polys_Ring_b_divided
theorem run_polys_Ring_b_divided {args : List Value} {w : World} {K : Value → World → Prop} (hn : args.length ≤ 93) (h : WP Try.prog c_polys_Ring_b_divided (endQ [.t 6, .t 7] K) (initT args) w) : CallV Try.prog 127 args w K :=
  call_of follows Try.func127 (by kernel_rfl) (by kernel_rfl) hn h
end Go.Proofs.Ytbaljbadlfopgaa.Fw
namespace Go.Proofs.Ytbaljbadlfopgaa.Fw
open Go Go.Fw
theorem co_set_mono8 (l : List (El 8)) {i : Nat} (h : i < l.length) (x : El 8) (h0 : l[i] = 0) : co (l.set i x) = co l + Ps.mono i x := Ps.ext fun k => by
  rw [co_set l h, Ps.add_c]
  show _ = _ + (if k = i then x else 0)
  by_cases hk : k = i
  · subst hk; rw [if_pos rfl, if_pos rfl, co_get l h, h0, El.zero_add]
  · rw [if_neg hk, if_neg hk, El.add_zero]
theorem polys_Ring_b_divided_spec (w : World) (r s1 s2 : Value) (l1 l2 : List (El 8)) (hr : Ring_b w r) (h1 : Sl w s1 l1) (h2 : Sl w s2 l2) (hb1 : l1.length ≤ 70368744175616) (hb2 : l2.length ≤ 70368744175616) (hg0 : tln l2 ≠ 0) :
    CallV Try.prog 127 [r, s1, s2] w fun v w' => ∃ sq sm q m, v = .tuple #[sq, sm] ∧ Ow w.heap.size w' sq q ∧ Ow w.heap.size w' sm m ∧ tr q = q ∧ tr m = m ∧ co l1 = co q * co l2 + co m ∧ m.length < tln l2 ∧ q.length = tln l1 - (tln l2 - 1) ∧ RowKit.Below w.heap.size w w' := by
  have hle1 := tln_le l1
  have hle2 := tln_le l2
  have h2w := h2
  obtain ⟨d, hd⟩ : ∃ d, tln l2 = d + 1 := ⟨tln l2 - 1, by omega⟩
  have hdl : d < l2.length := by omega
  have htop : l2[d] ≠ 0 := by rw [← co_get l2 hdl]; exact tln_top l2 d hd
  refine run_polys_Ring_b_divided (by simp) ?_
  simp only [c_polys_Ring_b_divided, WS, ↓reduceIte, Nat.reduceEqDiff, reduceCtorEq]
  refine X_call0 ((polys_copied_b_spec w s1 l1 h1 hb1).mono ?_)
  rintro sm w1 ⟨om, hB1⟩
  have h2 := h2.up hB1
  have hr1 := hr.up hB1
  simp only [WS, ↓reduceIte, Nat.reduceEqDiff, reduceCtorEq]
  refine X_call0 ((polys_degree_b_spec w1 s2 l2 h2 hb2).mono ?_)
  rintro v w' ⟨rfl, rfl⟩
  have ed : ((tln l2 : Int) - 1) = (d : Int) := by omega
  rw [ed]
  obtain ⟨b, mv, iv, rfl, hrow, hm, hi⟩ := id hr1
  simp only [WS, ↓reduceIte, Nat.reduceEqDiff, reduceCtorEq]
  refine WP_dops ?_
  have h2d := h2.drew
  simp only [ES, List.mem_cons, List.not_mem_nil, implies_true, forall_const, WS, ↓reduceIte, Nat.reduceEqDiff, reduceCtorEq, addr_add0, Nat.zero_add, hrow.drew.Eld (show 1 < [mv, iv].length by simp), h2d.Eix hdl, h2d.Eld hdl, cell_e8]
  refine E_callK (Inv_b.call (w := w'.drew) hi _ htop fun w2 hl => ?_)
  have hL : Like w' w2 := (Like.drew w').trans hl
  have om := hL.ow om
  have B2 : RowKit.Below w.heap.size w w2 := hL.bel hB1 hB1.size
  have hr2 : Ring_b w2 (.pointer (some ⟨b, 0, none⟩)) := hr1.up hL.1
  have h2 := hL.sl h2
  have hml : (tr l1).length = tln l1 := tr_len l1
  simp only [ES, List.mem_cons, List.not_mem_nil, implies_true, forall_const, WS, ↓reduceIte, Nat.reduceEqDiff, reduceCtorEq, om.sl.Xlen, hml]
  generalize hc : (l2[d]).inv = c
  have hgc : l2[d] * c = 1 := by rw [← hc]; exact El.mul_inv _ htop
  clear hrow hm hi h2d hL hl hr1 hB1
  have fin : ∀ (q m : List (El 8)) (sq : Value) (w5 : World), q.length = tln l1 - d → m.length = tln l1 → co l1 = co q * co l2 + co m → Dg (co m) d → Ow w.heap.size w5 sq q → Ow w.heap.size w5 sm m → RowKit.Below w.heap.size w w5 →
      CallV Try.prog 125 [sm] w5 fun v w' => ∃ sq' sm' q m, Value.tuple #[sq, v] = .tuple #[sq', sm'] ∧ Ow w.heap.size w' sq' q ∧ Ow w.heap.size w' sm' m ∧ tr q = q ∧ tr m = m ∧ co l1 = co q * co l2 + co m ∧ m.length < tln l2 ∧ q.length = tln l1 - (tln l2 - 1) ∧ RowKit.Below w.heap.size w w' := by
    intro q m sq w5 hq hm he hdm oq om hB
    refine (polys_copied_b_spec w5 sm m om.sl (by omega)).mono ?_
    rintro v w6 ⟨o6, hB6⟩
    have htm : tln m ≤ d := by
      refine Nat.le_of_not_lt fun h => ?_
      exact tln_top m (tln m - 1) (by omega) (hdm _ (by omega))
    have htq : tr q = q := by
      by_cases h0 : tln l1 ≤ d
      · have : q = [] := List.eq_nil_of_length_eq_zero (by omega)
        rw [this]; rfl
      · have : tln q = q.length := by
          refine Nat.le_antisymm (tln_le q) (Nat.le_of_not_lt fun h => ?_)
          have g1 : Dg (co q * co l2) (tln l1 - 1) := ((tln_dg q).mul (tln_dg l2)).mono (by omega)
          have g2 : Dg (co l1) (tln l1 - 1) := by rw [he]; exact g1.add (hdm.mono (by omega))
          exact tln_top l1 (tln l1 - 1) (by omega) (g2 _ (Nat.le_refl _))
        unfold tr; rw [this, List.take_length]
    refine ⟨sq, v, q, tr m, rfl, oq.up hB6, o6.mono hB.size, htq, tr_tr m, by rw [tr_co]; exact he, by rw [tr_len]; omega, by omega, hB.trans (hB6.mono hB.size)⟩
  by_cases had : tln l1 ≤ d
  · have e3 : IntKind.i64.wrap ((tln l1 : Int) - 1) = (tln l1 : Int) - 1 := wrap_id (by omega) (by omega)
    have e4 : IntKind.i64.wrap ((tln l1 : Int) - 1 - (d : Int)) = (tln l1 : Int) - 1 - (d : Int) := wrap_id (by omega) (by omega)
    simp only [WS, ↓reduceIte, Nat.reduceEqDiff, reduceCtorEq, show decide ((d : Int) < (tln l1 : Int)) = false from decide_eq_false (by omega), om.sl.Xlen, hml, e3, e4]
    refine loop_of (fun t w' => w' = w2 ∧ t 6 = .slice none 0 0 ∧ t 7 = sm ∧ t 11 = .int .i64 ((tln l1 : Int) - 1 - (d : Int))) (fun _ _ => 0) ⟨rfl, rfl, rfl, rfl⟩ ?_
    rintro t w' ⟨rfl, t6, t7, t11⟩
    simp only [WS, ↓reduceIte, Nat.reduceEqDiff, reduceCtorEq, t6, t7, t11, show decide ((0 : Int) ≤ (tln l1 : Int) - 1 - (d : Int)) = false from decide_eq_false (by omega)]
    refine X_call0 ((fin [] (tr l1) _ w' (by simp; omega) hml (by rw [co_nil, Ps.zero_mul, Ps.zero_add, tr_co]) (by rw [tr_co]; exact (tln_dg l1).mono had) (Ow.nil _ _) om B2).mono ?_)
    intro v w' h
    simp only [WS, ↓reduceIte, Nat.reduceEqDiff, reduceCtorEq]
    exact h
  · have e3 : IntKind.i64.wrap ((tln l1 : Int) - (d : Int)) = ((tln l1 - d : Nat) : Int) := by rw [wrap_id (by omega) (by omega)]; omega
    have e4 : IntKind.i64.wrap ((tln l1 : Int) - 1) = (tln l1 : Int) - 1 := wrap_id (by omega) (by omega)
    have e5 : IntKind.i64.wrap ((tln l1 : Int) - 1 - (d : Int)) = ((tln l1 - d : Nat) : Int) - 1 := by rw [wrap_id (by omega) (by omega)]; omega
    simp only [WS, ↓reduceIte, Nat.reduceEqDiff, reduceCtorEq, show decide ((d : Int) < (tln l1 : Int)) = true from decide_eq_true (by omega), om.sl.Xlen, hml, e3]
    refine X_mks (x := (0 : El 8)) ?_ ?_ fun sq w3 oq hB => ?_
    · simp only [maxBytes]; omega
    · omega
    have omb := om.blk
    have om := om.up hB
    have B3 : RowKit.Below w.heap.size w w3 := B2.trans (hB.mono B2.size)
    have hne : Fw.blk sm ≠ Fw.blk sq := by
      intro e
      have hb2 : ∀ k, Fw.blk sq = some k → w2.heap.size ≤ k := fun k hk => (oq.blk k hk).1
      obtain ⟨k, hk, -⟩ := oq.sl.blk_lt (by intro e; have := congrArg List.length e; simp at this; omega)
      have h5 := hb2 k hk
      rw [hk] at e
      have h6 : k < w2.heap.size := (omb k e).2
      omega
    have oq := oq.mono B2.size
    have sqb : ∀ k, Fw.blk sq = some k → w.heap.size ≤ k := fun k hk => (oq.blk k hk).1
    have smb : ∀ k, Fw.blk sm = some k → w.heap.size ≤ k := fun k hk => (omb k hk).1
    simp only [WS, ↓reduceIte, Nat.reduceEqDiff, reduceCtorEq, om.sl.Xlen, hml, e4, e5]
    refine loop_of (fun t w' => t 0 = .pointer (some ⟨b, 0, none⟩) ∧ t 2 = s2 ∧ t 6 = sq ∧ t 7 = sm ∧ t 8 = .int .i64 (d : Int) ∧ t 9 = .int .u8 (c.v.toNat : Int) ∧ RowKit.Below w.heap.size w w' ∧ ∃ (k : Nat) (q m : List (El 8)), t 11 = .int .i64 ((k : Int) - 1) ∧ k ≤ tln l1 - d ∧
        Ow w.heap.size w' sq q ∧ Ow w.heap.size w' sm m ∧ q.length = tln l1 - d ∧ m.length = tln l1 ∧ co l1 = co q * co l2 + co m ∧ Dg (co m) (k + d) ∧ ∀ i, i < k → (co q).c i = 0)
      (fun t _ => (toI (t 11) + 1).toNat) ⟨by simp only [WS, ↓reduceIte, Nat.reduceEqDiff, reduceCtorEq], by simp only [WS, ↓reduceIte, Nat.reduceEqDiff, reduceCtorEq], rfl, by simp only [WS, ↓reduceIte, Nat.reduceEqDiff, reduceCtorEq], by simp only [WS, ↓reduceIte, Nat.reduceEqDiff, reduceCtorEq], by simp only [WS, ↓reduceIte, Nat.reduceEqDiff, reduceCtorEq], B3, tln l1 - d, _, tr l1, rfl, Nat.le_refl _, oq, om, by simp, hml, by rw [co_replicate, Ps.zero_mul, Ps.zero_add, tr_co], by rw [tr_co]; exact (tln_dg l1).mono (by omega), fun i _ => by rw [co_replicate]; rfl⟩ ?_
    clear om oq B3 hB
    rintro t w4 ⟨t0, t2, t6, t7, t8, t9, hB, k, q, m, t11, hk, oq, om, hql, hml, hco, hdm, hqz⟩
    rcases Nat.eq_zero_or_pos k with rfl | hp
    · rw [Nat.zero_add] at hdm
      simp only [WS, ↓reduceIte, Nat.reduceEqDiff, reduceCtorEq, t0, t2, t6, t7, t8, t9, t11, show decide ((0 : Int) ≤ ((0 : Nat) : Int) - 1) = false from rfl]
      refine X_call0 ((fin q m sq w4 hql hml hco hdm oq om hB).mono ?_)
      intro v w' h
      simp only [WS, ↓reduceIte, Nat.reduceEqDiff, reduceCtorEq]
      exact h
    · obtain ⟨k, rfl⟩ : ∃ j, k = j + 1 := ⟨k - 1, by omega⟩
      have e1 : ((k + 1 : Nat) : Int) - 1 = (k : Int) := by omega
      rw [e1] at t11
      have hkd : k + d < m.length := by omega
      have hkq : k < q.length := by omega
      obtain ⟨b', mv', iv', hbe, hrow', hm', -⟩ := hr.up hB
      cases hbe
      have wkd : IntKind.i64.wrap ((k : Int) + (d : Int)) = ((k + d : Nat) : Int) := by rw [wrap_id (by omega) (by omega)]; omega
      have wk1 : IntKind.i64.wrap ((k : Int) - 1) = (k : Int) - 1 := wrap_id (by omega) (by omega)
      have hos := om.sl.drew
      simp only [WS, ↓reduceIte, Nat.reduceEqDiff, reduceCtorEq, t0, t2, t6, t7, t8, t9, t11, show decide ((0 : Int) ≤ (k : Int)) = true by simp]
      refine WP_dops ?_
      simp only [ES, List.mem_cons, List.not_mem_nil, implies_true, forall_const, WS, ↓reduceIte, Nat.reduceEqDiff, reduceCtorEq, t0, t2, t6, t7, t8, t9, t11, wkd, addr_add0, Nat.zero_add, hrow'.drew.Eld (show 0 < [mv', iv'].length by simp), hos.Eix hkd, hos.Eld hkd, cell_e8]
      refine E_callK (Mul_b.call (w := w4.drew) hm' _ _ fun w5 hl => ?_)
      have hL : Like w4 w5 := (Like.drew w4).trans hl
      have om := hL.ow om
      have oq := hL.ow oq
      have hB := hL.bel hB hB.size
      generalize hx : m[k + d] * c = x
      simp only [ES, List.mem_cons, List.not_mem_nil, implies_true, forall_const, WS, ↓reduceIte, Nat.reduceEqDiff, reduceCtorEq, t0, t2, t6, t7, t8, t9, t11, oq.sl.Xix hkq]
      refine Ow.Xst oq hkq x fun w6 oq hg => ?_
      have om := om.grown hg hne
      have hB := hB.grown hg hB.size sqb
      clear hg hrow' hm' hos hl hL
      simp only [WS, ↓reduceIte, Nat.reduceEqDiff, reduceCtorEq, t0, t2, t6, t7, t8, t9, t11]
      have hqk : q[k] = 0 := by rw [← co_get q hkq]; exact hqz k (by omega)
      have hsm := co_set_mono8 q hkq x hqk
      have hql' : (q.set k x).length = tln l1 - d := by simp [hql]
      have hqz' : ∀ i, i < k → (co (q.set k x)).c i = 0 := fun i hi => by rw [co_set _ hkq, if_neg (by omega)]; exact hqz i (by omega)
      by_cases hx0 : x = 0
      · have d1 : decide ((x.v.toNat : Int) = 0) = true := decide_eq_true ((el_zero _).mpr hx0)
        have hmz : m[k + d] = 0 := by
          rw [hx0] at hx
          rcases El.mul_eq_zero.1 hx with h | h
          · exact h
          · exact absurd hgc (by rw [h, El.mul_zero]; exact fun e => El.one_ne e.symm)
        simp only [WS, ↓reduceIte, Nat.reduceEqDiff, reduceCtorEq, t0, t2, t6, t7, t8, t9, t11, d1, wk1, toI_int]
        refine ⟨⟨hB, k, q.set k x, m, rfl, by omega, oq, om, hql', hml, ?_, fun i hi => ?_, hqz'⟩, by omega⟩
        · rw [hsm, hx0, mono_zero, Ps.add_zero]; exact hco
        · by_cases hi2 : i = k + d
          · subst hi2; rw [co_get m hkd]; exact hmz
          · exact hdm i (by omega)
      · have d1 : decide ((x.v.toNat : Int) = 0) = false := decide_eq_false (fun e => hx0 ((el_zero _).mp e))
        have wd1 : IntKind.i64.wrap ((d : Int) + 1) = ((d + 1 : Nat) : Int) := by rw [wrap_id (by omega) (by omega)]; omega
        simp only [WS, ↓reduceIte, Nat.reduceEqDiff, reduceCtorEq, t0, t2, t6, t7, t8, t9, t11, d1, wd1]
        refine loop_of (fun t w' => t 0 = .pointer (some ⟨b, 0, none⟩) ∧ t 2 = s2 ∧ t 6 = sq ∧ t 7 = sm ∧ t 8 = .int .i64 (d : Int) ∧ t 9 = .int .u8 (c.v.toNat : Int) ∧ t 11 = .int .i64 (k : Int) ∧ t 12 = .int .u8 (x.v.toNat : Int) ∧ t 67 = .int .i64 ((d + 1 : Nat) : Int) ∧ RowKit.Below w.heap.size w w' ∧
            Ow w.heap.size w' sq (q.set k x) ∧ ∃ (j : Nat) (ms : List (El 8)), t 68 = .int .i64 (j : Int) ∧ j ≤ d + 1 ∧ Ow w.heap.size w' sm ms ∧ ms.length = tln l1 ∧ ∀ i, (co ms).c i = (co m).c i + (if k ≤ i ∧ i < k + j then x * (co l2).c (i - k) else 0))
          (fun t _ => d + 1 - (toI (t 68)).toNat) ⟨by simp only [WS, ↓reduceIte, Nat.reduceEqDiff, reduceCtorEq, t0], by simp only [WS, ↓reduceIte, Nat.reduceEqDiff, reduceCtorEq, t2], by simp only [WS, ↓reduceIte, Nat.reduceEqDiff, reduceCtorEq, t6], by simp only [WS, ↓reduceIte, Nat.reduceEqDiff, reduceCtorEq, t7], by simp only [WS, ↓reduceIte, Nat.reduceEqDiff, reduceCtorEq, t8], by simp only [WS, ↓reduceIte, Nat.reduceEqDiff, reduceCtorEq, t9], by simp only [WS, ↓reduceIte, Nat.reduceEqDiff, reduceCtorEq, t11], rfl, rfl, hB, oq, 0, m, rfl, by omega, om, hml, fun i => by rw [if_neg (by omega), El.add_zero]⟩ ?_
        clear t0 t2 t6 t7 t8 t9 t11 om oq hB
        rintro t w7 ⟨t0, t2, t6, t7, t8, t9, t11, t12, t67, hB, oq, j, ms, t68, hj, om, hmsl, hmc⟩
        by_cases hjl : j < d + 1
        · obtain ⟨b', mv', iv', hbe, hrow', hm', -⟩ := hr.up hB
          cases hbe
          have hj2 : j < l2.length := by omega
          have hkj : k + j < ms.length := by omega
          have wkj : IntKind.i64.wrap ((k : Int) + (j : Int)) = ((k + j : Nat) : Int) := by rw [wrap_id (by omega) (by omega)]; omega
          have wj : IntKind.i64.wrap ((j : Int) + 1) = ((j + 1 : Nat) : Int) := by rw [wrap_id (by omega) (by omega)]; omega
          have hos := om.sl.drew
          have hg := (h2w.up hB).drew
          simp only [WS, ↓reduceIte, Nat.reduceEqDiff, reduceCtorEq, t0, t2, t6, t7, t8, t9, t11, t12, t67, t68, show decide ((j : Int) < ((d + 1 : Nat) : Int)) = true from decide_eq_true (by omega)]
          refine WP_dops ?_
          simp only [ES, List.mem_cons, List.not_mem_nil, implies_true, forall_const, WS, ↓reduceIte, Nat.reduceEqDiff, reduceCtorEq, t0, t2, t6, t7, t8, t9, t11, t12, t67, t68, wkj, addr_add0, Nat.zero_add, Nat.add_zero, hrow'.drew.Eld (show 0 < [mv', iv'].length by simp), hos.Eix hkj, hos.Eld hkj, hg.Eix hj2, hg.Eld hj2, cell_e8]
          refine E_callK (Mul_b.call (w := w7.drew) hm' _ _ fun w8 hl => ?_)
          have hos8 := hl.sl hos
          have hsee := hos8.sees hkj Try.prog
          rw [cell_e8] at hsee
          have hL : Like w7 w8 := (Like.drew w7).trans hl
          simp only [ES, List.mem_cons, List.not_mem_nil, implies_true, forall_const, WS, ↓reduceIte, Nat.reduceEqDiff, reduceCtorEq, hsee, xor8, hos8.Eix hkj]
          refine Ow.Est (hL.ow om) hkj (ms[k + j] + x * l2[j]) fun w9 om9 hg9 => ?_
          have oq9 := (hL.ow oq).grown hg9 (fun e => hne e.symm)
          have hB9 := (hL.bel hB hB.size).grown hg9 (by rw [hL.size]; exact hB.size) smb
          simp only [ES, List.mem_cons, List.not_mem_nil, implies_true, forall_const, WS, ↓reduceIte, Nat.reduceEqDiff, reduceCtorEq, t0, t2, t6, t7, t8, t9, t11, t12, t67, t68, wj, toI_int]
          refine ⟨⟨hB9, oq9, j + 1, _, rfl, by omega, om9, by simp [hmsl], fun i => ?_⟩, by omega⟩
          rw [co_set _ hkj, hmc i]
          by_cases hi : i = k + j
          · subst hi
            rw [if_pos rfl, if_pos ⟨by omega, by omega⟩]
            have := hmc (k + j)
            rw [if_neg (by omega), El.add_zero, co_get ms hkj] at this
            rw [this, show k + j - k = j by omega, co_get _ hj2]
          · rw [if_neg hi]
            have : (k ≤ i ∧ i < k + (j + 1)) = (k ≤ i ∧ i < k + j) := propext ⟨fun h => by omega, fun h => by omega⟩
            simp only [this]
        · have hje : j = d + 1 := by omega
          subst hje
          have hms : co ms = co m + Ps.mono k x * co l2 := Ps.ext fun i => by
            rw [hmc i, Ps.add_c, Ps.mono_mul]
            congr 1
            by_cases hki : k ≤ i
            · rw [if_pos hki]
              by_cases h3 : i < k + (d + 1)
              · rw [if_pos ⟨hki, h3⟩]
              · rw [if_neg (by omega), tln_dg l2 (i - k) (by omega), El.mul_zero]
            · rw [if_neg (by omega), if_neg hki]
          simp only [WS, ↓reduceIte, Nat.reduceEqDiff, reduceCtorEq, t0, t2, t6, t7, t8, t9, t11, t12, t67, t68, show decide (((d + 1 : Nat) : Int) < ((d + 1 : Nat) : Int)) = false from decide_eq_false (by omega), wk1, toI_int]
          refine ⟨⟨hB, k, q.set k x, ms, rfl, by omega, oq, om, hql', hmsl, ?_, fun i hi => ?_, hqz'⟩, by omega⟩
          · rw [hsm, hms, Ps.add_mul, hco]
            generalize co q * co l2 = A
            generalize Ps.mono k x * co l2 = B
            rw [show A + B + (co m + B) = A + co m + (B + B) by ac_rfl, Ps.add_self, Ps.add_zero]
          · rw [hms, Ps.add_c, Ps.mono_mul, if_pos (by omega)]
            by_cases hi2 : i = k + d
            · subst hi2
              rw [show k + d - k = d by omega, co_get m hkd, co_get l2 hdl, ← hx, El.mul_assoc, El.mul_comm c, hgc, El.mul_one, El.add_self]
            · rw [hdm i (by omega), tln_dg l2 (i - k) (by omega), El.mul_zero, El.add_zero]
end Go.Proofs.Ytbaljbadlfopgaa.Fw

namespace Go.Proofs.Ytbaljbadlfopgaa.Fw
open Go Go.Fw
theorem polys_Ring_b_DivMod_spec (w : World) (r s1 s2 : Value) (l1 l2 : List (El 8)) (hr : Ring_b w r) (h1 : Sl w s1 l1) (h2 : Sl w s2 l2) (hb1 : l1.length ≤ 70368744175616) (hb2 : l2.length ≤ 70368744175616) :
    CallV Try.prog 91 [r, s1, s2] w fun v w' => RowKit.Below w.heap.size w w' ∧
      ((l1.length ≤ 1024 ∧ l2.length ≤ 1024 ∧ tln l2 ≠ 0 ∧ ∃ sq sm q m, v = .tuple #[sq, sm, .int .i64 0] ∧ Ow w.heap.size w' sq q ∧ Ow w.heap.size w' sm m ∧ tr q = q ∧ tr m = m ∧ co l1 = co q * co l2 + co m ∧ m.length < tln l2 ∧ q.length = tln l1 - (tln l2 - 1)) ∨
       (l1.length ≤ 1024 ∧ l2.length ≤ 1024 ∧ tln l2 = 0 ∧ v = .tuple #[.slice none 0 0, .slice none 0 0, .int .i64 40]) ∨
       (¬ (l1.length ≤ 1024 ∧ l2.length ≤ 1024) ∧ v = .tuple #[.slice none 0 0, .slice none 0 0, .int .i64 5])) := by
  refine run_polys_Ring_b_DivMod (by simp) ?_
  simp only [c_polys_Ring_b_DivMod, WS, ↓reduceIte, Nat.reduceEqDiff, reduceCtorEq]
  obtain ⟨e1, n1⟩ := h1.hd
  obtain ⟨e2, n2⟩ := h2.hd
  refine X_bsl (zs := [hd s1, hd s2]) (fill2 h1 h2) rfl fun ls w1 ho hB => ?_
  obtain ⟨b, mv, iv, rfl, -, -⟩ := id hr
  simp only [WS, ↓reduceIte, Nat.reduceEqDiff, reduceCtorEq]
  refine X_call0 ((polys_Ring_b_refuses_spec w1 _ ls _ ho.sl (by simp) (by simp [n1, n2]; omega)).mono ?_)
  rintro v w' ⟨rfl, rfl⟩
  have hiff : (∀ x ∈ [hd s1, hd s2], x.n ≤ 1024) = (l1.length ≤ 1024 ∧ l2.length ≤ 1024) := by simp [n1, n2]
  by_cases hsz : l1.length ≤ 1024 ∧ l2.length ≤ 1024
  · rw [if_pos (hiff.mpr hsz)]
    simp only [WS, ↓reduceIte, Nat.reduceEqDiff, reduceCtorEq, show decide ((0 : Int) = 0) = true from rfl]
    refine X_call0 ((polys_degree_b_spec w' s2 l2 (h2.up hB) hb2).mono ?_)
    rintro v w2 ⟨rfl, rfl⟩
    by_cases hz : tln l2 = 0
    · simp only [WS, ↓reduceIte, Nat.reduceEqDiff, reduceCtorEq, show decide ((tln l2 : Int) - 1 < 0) = true from decide_eq_true (by omega)]
      exact ⟨hB, Or.inr (Or.inl ⟨hsz.1, hsz.2, hz⟩)⟩
    · simp only [WS, ↓reduceIte, Nat.reduceEqDiff, reduceCtorEq, show decide ((tln l2 : Int) - 1 < 0) = false from decide_eq_false (by omega)]
      refine X_call0 ((polys_Ring_b_divided_spec w2 _ s1 s2 l1 l2 (hr.up hB) (h1.up hB) (h2.up hB) hb1 hb2 hz).mono ?_)
      rintro v w3 ⟨sq, sm, q, m, rfl, oq, om, h3, h4, h5, h6, h7, hB2⟩
      simp only [WS, ↓reduceIte, Nat.reduceEqDiff, reduceCtorEq]
      exact ⟨hB.trans (hB2.mono hB.size), Or.inl ⟨hsz.1, hsz.2, hz, sq, sm, q, m, rfl, oq.mono hB.size, om.mono hB.size, h3, h4, h5, h6, h7⟩⟩
  · rw [if_neg (fun e => hsz (hiff.mp e))]
    simp only [WS, ↓reduceIte, Nat.reduceEqDiff, reduceCtorEq, show decide ((5 : Int) = 0) = false from rfl]
    exact ⟨hB, Or.inr (Or.inr hsz)⟩
end Go.Proofs.Ytbaljbadlfopgaa.Fw

/- Euclid's way with its factors. Plain maths. -/
set_option linter.unusedVariables false
set_option linter.unusedSectionVars false
namespace Go.Fw
variable {n : Nat} [F : Fd n]
theorem tr_nil : tr ([] : List (El n)) = [] := rfl
theorem tr_one : tr [(1 : El n)] = [1] := by unfold tr; simp [tln, El.one_ne]
theorem co_one : co [(1 : El n)] = 1 := Ps.ext fun k => by
  rcases k with _ | k
  · rfl
  · rfl
theorem len_top {a : List (El n)} (h : tr a = a) (h0 : a ≠ []) : (co a).c (a.length - 1) ≠ 0 := by
  have := len_tr h
  have hp : 0 < a.length := List.length_pos_iff.2 h0
  exact tln_top a (a.length - 1) (by omega)
theorem len_of {a : List (El n)} {k : Nat} (h : tr a = a) (h1 : Dg (co a) k) (h2 : k = 0 ∨ (co a).c (k - 1) ≠ 0) : a.length = k := by rw [len_tr h, tln_of h1 h2]
theorem len_le {a : List (El n)} {k : Nat} (h : tr a = a) (h1 : Dg (co a) k) : a.length ≤ k := by
  refine Nat.le_of_not_lt fun h2 => ?_
  have h0 : a ≠ [] := by rintro rfl; simp at h2
  exact len_top h h0 (h1 _ (by omega))
/-- A product that is not 0 and a summand of a lower degree. -/
theorem sum_len {s' u q s : List (El n)} (hs' : tr s' = s') (hq : tr q = q) (hs : tr s = s) (he : co s' = co u + co q * co s) (hq0 : q ≠ []) (hs0 : s ≠ []) (hu : u.length + 1 < q.length + s.length) : s'.length + 1 = q.length + s.length := by
  have hql : 0 < q.length := List.length_pos_iff.2 hq0
  have hsl : 0 < s.length := List.length_pos_iff.2 hs0
  have : s'.length = q.length + s.length - 1 := by
    refine len_of hs' ?_ (Or.inr ?_)
    · rw [he]
      exact ((co_dg u).mono (by omega)).add ((co_dg q).mul (co_dg s))
    · rw [he, Ps.add_c, co_dg u _ (by omega), El.zero_add]
      have h1 : Dg (co q) (q.length - 1 + 1) := (co_dg q).mono (by omega)
      have h2 : Dg (co s) (s.length - 1 + 1) := (co_dg s).mono (by omega)
      have h3 := Ps.mul_top h1 h2
      rw [show q.length + s.length - 1 - 1 = q.length - 1 + (s.length - 1) by omega, h3]
      exact fun e => (El.mul_eq_zero.1 e).elim (len_top hq hq0) (len_top hs hs0)
  omega
theorem quo_len {a q b m : List (El n)} (ha : tr a = a) (hq : tr q = q) (hb : tr b = b) (he : co a = co q * co b + co m) (hm : m.length < b.length) (hl : b.length ≤ a.length) : q.length + b.length = a.length + 1 := by
  have hb0 : b ≠ [] := by rintro rfl; simp at hm
  by_cases hq0 : q = []
  · subst hq0
    have : a.length ≤ m.length := len_le ha (by rw [he, co_nil, Ps.zero_mul, Ps.zero_add]; exact co_dg m)
    omega
  · have hql : 0 < q.length := List.length_pos_iff.2 hq0
    have := sum_len (u := m) ha hq hb (by rw [he, Ps.add_comm]) hq0 hb0 (by omega)
    omega
theorem quo_zero {a q b m : List (El n)} (ha : tr a = a) (hq : tr q = q) (hb : tr b = b) (he : co a = co q * co b + co m) (hm : m.length < b.length) (hl : a.length < b.length) : q = [] := by
  have hb0 : b ≠ [] := by rintro rfl; simp at hm
  refine Classical.byContradiction fun hq0 => ?_
  have hql : 0 < q.length := List.length_pos_iff.2 hq0
  have := sum_len (u := m) ha hq hb (by rw [he, Ps.add_comm]) hq0 hb0 (by omega)
  omega
theorem div_uniq {a b q m q' m' : List (El n)} (hq : tr q = q) (hm : tr m = m) (hq' : tr q' = q') (hm' : tr m' = m') (he : co a = co q * co b + co m) (he' : co a = co q' * co b + co m') (hl : m.length < tln b) (hl' : m'.length < tln b) : q = q' ∧ m = m' := by
  have h : (co q + co q') * co b = co m + co m' := by
    have h1 : co q * co b + co m + (co q' * co b + co m') = 0 := by rw [← he, ← he', Ps.add_self]
    have h2 : (co q + co q') * co b + (co m + co m') = 0 := by rw [← h1, Ps.add_mul]; ac_rfl
    exact Ps.eq_of_add h2
  obtain ⟨d, hd⟩ := ((Pol.of q).add (Pol.of q'))
  have hmm : Dg (co m + co m') (tln b - 1) := ((co_dg m).mono (by omega)).add ((co_dg m').mono (by omega))
  by_cases h0 : tln d = 0
  · have e := co_zero_of_tln h0
    rw [hd] at e
    rw [e, Ps.zero_mul] at h
    exact ⟨tr_inj hq hq' (Ps.eq_of_add e), tr_inj hm hm' (Ps.eq_of_add h.symm)⟩
  · exfalso
    have hp : Pol (co d * co b) := (Pol.of d).mul (Pol.of b)
    obtain ⟨p, hp⟩ := hp
    have h3 := tln_mul hp h0 (by omega)
    have h4 : Dg (co p) (tln b - 1) := by rw [hp, hd, h]; exact hmm
    exact tln_top p (tln p - 1) (by omega) (h4 _ (by omega))
/-- Euclid's way from a and b on, with the factors u, v of a and s, t of b: what it ends with. -/
inductive Eu (d : Nat) : List (El n) → List (El n) → List (El n) → List (El n) → List (El n) → List (El n) → List (El n) → List (El n) → List (El n) → Prop
  | stop {a b u v s t} : a.length ≤ d → Eu d a b u v s t a u v
  | zero {a u v s t} : d < a.length → Eu d a [] u v s t [] s t
  | step {a b u v s t q m s' t' x y z} : d < a.length → b ≠ [] → tr q = q → tr m = m → co a = co q * co b + co m → m.length < b.length → tr s' = s' → co s' = co u + co q * co s → tr t' = t' → co t' = co v + co q * co t →
      Eu d b m s t s' t' x y z → Eu d a b u v s t x y z
/-- What Partial answers. -/
structure Part (f g : Ps n) (d : Nat) (m u v : List (El n)) : Prop where
  tm : tr m = m
  tu : tr u = u
  tv : tr v = v
  eq : co m = co u * f + co v * g
  lm : m.length ≤ d
  cop : ∃ p q, Pol p ∧ Pol q ∧ p * co u + q * co v = 1
theorem Eu.part {d : Nat} {f g : Ps n} {a b u v s t x y z : List (El n)} (h : Eu d a b u v s t x y z) (ha : tr a = a) (hb : tr b = b) (hu : tr u = u) (hv : tr v = v) (hs : tr s = s) (ht : tr t = t)
    (ea : co a = co u * f + co v * g) (eb : co b = co s * f + co t * g) (e1 : co u * co t + co v * co s = 1) : Part f g d x y z := by
  induction h with
  | @stop a b u v s t h1 => exact ⟨ha, hu, hv, ea, h1, co t, co s, Pol.of _, Pol.of _, by rw [← e1]; ac_rfl⟩
  | @zero a u v s t h1 => exact ⟨rfl, hs, ht, eb, by simp, co v, co u, Pol.of _, Pol.of _, by rw [← e1]; ac_rfl⟩
  | @step a b u v s t q m s' t' x y z h1 h2 h3 h4 h5 h6 h7 h8 h9 h10 h11 ih =>
    have hm : co m = co a + co q * co b := by rw [h5]; generalize co q * co b = A; rw [show A + co m + A = co m + (A + A) by ac_rfl, Ps.add_self, Ps.add_zero]
    refine ih hb h4 hs ht h7 h9 eb ?_ ?_
    · rw [hm, ea, eb, h8, h10, Ps.mul_add, Ps.add_mul, Ps.add_mul, Ps.mul_assoc, Ps.mul_assoc]; ac_rfl
    · rw [h8, h10, Ps.mul_add, Ps.mul_add, ← e1]
      rw [show co s * co v + co s * (co q * co t) + (co t * co u + co t * (co q * co s)) = (co u * co t + co v * co s) + (co s * (co q * co t) + co s * (co q * co t)) by
        rw [show co t * (co q * co s) = co s * (co q * co t) by ac_rfl, Ps.mul_comm (co s) (co v), Ps.mul_comm (co t) (co u)]; ac_rfl, Ps.add_self, Ps.add_zero]
theorem Eu.degs {d nF nG : Nat} {a b u v s t x y z : List (El n)} (h : Eu d a b u v s t x y z) (ha : tr a = a) (hb : tr b = b) (hs : tr s = s) (ht : tr t = t) (hba : b.length < a.length)
    (h1 : s.length + a.length = nG + 1) (h2 : u.length ≤ s.length) (h3 : t.length + a.length = nF + 1) (h4 : v.length ≤ t.length) (h5 : v.length + d ≤ nF) (h6 : a.length ≤ nG) (h7 : a.length ≤ nF) : y.length ≤ nG ∧ z.length ≤ nF ∧ z.length + d ≤ nF := by
  induction h with
  | @stop a b u v s t g1 => omega
  | @zero a u v s t g1 => omega
  | @step a b u v s t q m s' t' x y z g1 g2 g3 g4 g5 g6 g7 g8 g9 g10 g11 ih =>
    have hq := quo_len ha g3 hb g5 g6 (by omega)
    have hq0 : q ≠ [] := by rintro rfl; simp at hq; omega
    have e1 := sum_len g7 g3 hs g8 hq0 (by rintro rfl; simp at h1; omega) (by omega)
    have e2 := sum_len g9 g3 ht g10 hq0 (by rintro rfl; simp at h3; omega) (by omega)
    exact ih hb g4 g7 g9 g6 (by omega) (by omega) (by omega) (by omega) (by omega) (by omega) (by omega)
/-- The whole way. -/
theorem Eu.lens {d : Nat} {f g x y z : List (El n)} (h : Eu d (tr f) (tr g) [1] [] [] [1] x y z) :
    y.length ≤ max 1 (tln g) ∧ z.length ≤ max 1 (tln f) ∧ (tln f ≤ d → x = tr f ∧ z = []) ∧ (d < tln f → tln g < tln f → z.length + d ≤ tln f) := by
  have tf := tr_len f
  have tg := tr_len g
  generalize hF : tr f = A at h tf
  generalize hG : tr g = B at h tg
  have hA : tr A = A := by rw [← hF]; exact tr_tr f
  have hB : tr B = B := by rw [← hG]; exact tr_tr g
  cases h with
  | stop h1 => exact ⟨by simp; omega, by simp, fun _ => ⟨rfl, rfl⟩, fun h => by omega⟩
  | zero h1 => exact ⟨by simp, by simp; omega, fun h => by omega, fun _ _ => by simp; omega⟩
  | @step _ _ _ _ _ _ q m s' t' _ _ _ h1 h2 h3 h4 h5 h6 h7 h8 h9 h10 h11 =>
    have hs' : s' = [1] := tr_inj h7 tr_one (by rw [h8, co_nil, Ps.mul_zero, Ps.add_zero])
    have ht' : t' = q := tr_inj h9 h3 (by rw [h10, co_nil, co_one, Ps.mul_one, Ps.zero_add])
    subst hs' ht'
    by_cases hl : B.length ≤ A.length
    · have hq := quo_len hA h3 hB h5 h6 hl
      obtain ⟨r1, r2, r3⟩ := h11.degs (nF := A.length) (nG := B.length) hB h4 tr_one h3 h6 (by simp; omega) (by simp) (by omega) (by simp; omega) (by simp; omega) (by omega) hl
      exact ⟨by omega, by omega, fun h => by omega, fun _ _ => by omega⟩
    · have hq := quo_zero hA h3 hB h5 h6 (by omega)
      subst hq
      have hm : m = A := tr_inj h4 hA (by rw [h5, co_nil, Ps.zero_mul, Ps.zero_add])
      subst hm
      cases h11 with
      | stop h1 => exact ⟨by simp, by simp; omega, fun h => by omega, fun _ _ => by omega⟩
      | zero _ => simp at h1
      | @step _ _ _ _ _ _ q m' s' t' _ _ _ k1 k2 k3 k4 k5 k6 k7 k8 k9 k10 k11 =>
        have ht' : t' = [1] := tr_inj k9 tr_one (by rw [k10, co_nil, Ps.mul_zero, Ps.add_zero])
        have hs' : s' = q := tr_inj k7 k3 (by rw [k8, co_nil, co_one, Ps.mul_one, Ps.zero_add])
        subst hs' ht'
        have hq := quo_len hB k3 hA k5 k6 (by omega)
        obtain ⟨r1, r2, r3⟩ := k11.degs (nF := m.length) (nG := B.length) hA k4 k3 tr_one k6 (by omega) (by simp; omega) (by simp; omega) (by simp) (by simp; omega) (by omega) (by omega)
        exact ⟨by omega, by omega, fun h => by omega, fun _ _ => by omega⟩
theorem Eu.whole {d : Nat} {f g x y z : List (El n)} (h : Eu d (tr f) (tr g) [1] [] [] [1] x y z) : Part (co f) (co g) d x y z :=
  h.part (tr_tr f) (tr_tr g) tr_one tr_nil tr_nil tr_one (by rw [tr_co, co_one, co_nil, Ps.one_mul, Ps.zero_mul, Ps.add_zero]) (by rw [tr_co, co_one, co_nil, Ps.one_mul, Ps.zero_mul, Ps.zero_add]) (by rw [co_one, co_nil, Ps.one_mul, Ps.zero_mul, Ps.add_zero])
end Go.Fw
