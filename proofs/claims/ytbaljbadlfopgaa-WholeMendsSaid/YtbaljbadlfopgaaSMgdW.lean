import Derived.Test.YtbaljbadlfopgaaProg
import Derived.Test.YtbaljbadlfopgaaFwTW
import Derived.Test.YtbaljbadlfopgaaSMawkW
import Derived.Test.YtbaljbadlfopgaaSRB0W
set_option linter.all false
set_option linter.unusedVariables false
set_option linter.unusedSimpArgs false
set_option maxRecDepth 100000
set_option maxHeartbeats 1000000
namespace Go.Proofs.Ytbaljbadlfopgaa.Fw
open Go Go.Fw Go.Proofs
attribute [local irreducible] stepI
def c_mend_work : C := .seq (.ops [⟨0,some 8,none,.mov (.c (.slice none 0 0)),[]⟩,⟨1,some 9,none,.mov (.c (.slice none 0 0)),[]⟩,⟨2,some 10,none,.mov (.c (.slice none 0 0)),[]⟩,⟨3,some 11,none,.mov (.c (.int .i64 0)),[]⟩]) (.seq (.seq (.ops [⟨0,some 37,none,.mov (.t 0),[]⟩,⟨1,some 38,none,.bin .neq (.t 37) (.c (.int .i64 0)),[]⟩,⟨2,some 39,none,.mov (.t 38),[]⟩,⟨3,some 40,(some (39,true)),.mov (.t 0),[]⟩,⟨4,some 41,(some (39,true)),.bin .neq (.t 40) (.c (.int .i64 1)),[]⟩,⟨5,some 42,none,.pick (.t 39) (.t 41) (.c (.bool false)),[]⟩]) (.ite (.t 42) (.seq (.ops [⟨0,some 8,none,.mov (.c (.slice none 0 0)),[]⟩,⟨1,some 9,none,.mov (.c (.slice none 0 0)),[]⟩,⟨2,some 10,none,.mov (.c (.slice none 0 0)),[]⟩,⟨3,some 11,none,.mov (.c (.int .i64 2)),[]⟩]) .ret) .skip)) (.seq (.ops [⟨0,some 44,none,.mov (.t 0),[]⟩,⟨1,some 45,none,.mov (.t 1),[]⟩,⟨2,some 46,none,.mov (.t 2),[]⟩,⟨3,some 47,none,.mov (.t 3),[]⟩,⟨4,some 48,none,.call (.c (.func (.func 92) #[] #[])) [.t 44,.t 45,.t 46,.t 47],[]⟩,⟨5,some 43,none,.mov (.t 48),[]⟩,⟨6,some 49,none,.ext (.t 43) 0,[]⟩,⟨7,some 50,none,.ext (.t 43) 1,[]⟩,⟨8,some 51,none,.ext (.t 43) 2,[]⟩,⟨9,some 12,none,.mov (.t 49),[]⟩,⟨10,some 9,none,.mov (.t 50),[]⟩,⟨11,some 11,none,.mov (.t 51),[]⟩]) (.seq (.seq (.ops [⟨0,some 52,none,.mov (.t 11),[]⟩,⟨1,some 53,none,.bin .neq (.t 52) (.c (.int .i64 0)),[]⟩]) (.ite (.t 53) (.seq (.ops [⟨0,some 54,none,.mov (.t 11),[]⟩,⟨1,some 8,none,.mov (.c (.slice none 0 0)),[]⟩,⟨2,some 9,none,.mov (.c (.slice none 0 0)),[]⟩,⟨3,some 10,none,.mov (.c (.slice none 0 0)),[]⟩,⟨4,some 11,none,.mov (.t 54),[]⟩]) .ret) .skip)) (.seq (.ops [⟨0,some 13,none,.mov (.c (.slice none 0 0)),[]⟩]) (.seq (.ops [⟨0,some 14,none,.mov (.c (.slice none 0 0)),[]⟩]) (.seq (.seq (.ops [⟨0,some 55,none,.mov (.t 3),[]⟩,⟨1,some 56,none,.len (.t 55),[]⟩,⟨2,some 57,none,.mov (.c (.int .i64 0)),[]⟩]) (.block 0 (.loop (.seq (.ops [⟨0,some 58,none,.bin .lss (.t 57) (.t 56),[]⟩]) (.seq (.ite (.t 58) .skip (.exit 0)) (.seq (.block 1 (.seq (.ops [⟨0,some 59,none,.mov (.t 57),[]⟩,⟨1,some 60,none,.ixs 1 (.t 55) (.t 57),[]⟩,⟨2,some 61,none,.ld (.t 60),[]⟩,⟨3,some 15,none,.mov (.t 59),[]⟩,⟨4,some 16,none,.mov (.t 61),[]⟩]) (.seq (.ops [⟨0,some 62,none,.mov (.t 16),[]⟩,⟨1,some 63,none,.len (.t 62),[]⟩,⟨2,some 64,none,.bin .gtr (.t 63) (.c (.int .i64 0)),[]⟩]) (.ite (.t 64) (.seq (.ops [⟨0,some 65,none,.mov (.t 13),[]⟩,⟨1,some 66,none,.mov (.t 15),[]⟩,⟨2,some 67,none,.bsl 3 1 [.int .i64 0] [(0,(1,.t 66))],[]⟩,⟨3,some 68,none,.app 3 8 [.int .i64 0] (.t 65) (.t 67),[]⟩,⟨4,some 13,none,.mov (.t 68),[]⟩]) (.ops [⟨0,some 69,none,.mov (.t 14),[]⟩,⟨1,some 70,none,.mov (.t 15),[]⟩,⟨2,some 71,none,.cnv .u8 (.t 70),[]⟩,⟨3,some 72,none,.bsl 5 1 [.int .u8 0] [(0,(1,.t 71))],[]⟩,⟨4,some 73,none,.app 5 1 [.int .u8 0] (.t 69) (.t 72),[]⟩,⟨5,some 14,none,.mov (.t 73),[]⟩])) .skip)))) (.ops [⟨0,some 74,none,.bin .add (.t 57) (.c (.int .i64 1)),[]⟩,⟨1,some 57,none,.mov (.t 74),[]⟩]))))))) (.seq (.ops [⟨0,some 75,none,.mov (.t 0),[]⟩,⟨1,some 76,none,.mov (.t 1),[]⟩,⟨2,some 77,none,.mov (.t 1),[]⟩,⟨3,some 78,none,.mov (.t 2),[]⟩,⟨4,some 79,none,.bin .add (.t 77) (.t 78),[]⟩,⟨5,some 80,none,.call (.c (.func (.func 93) #[] #[])) [.t 75,.t 76,.t 79],[]⟩,⟨6,some 17,none,.alloc 25 [.slice none 0 0],[]⟩,⟨7,none,none,.st (.t 17) (.t 80),[]⟩]) (.seq (.ops [⟨0,some 81,none,.mov (.t 1),[]⟩,⟨1,some 82,none,.mov (.t 14),[]⟩,⟨2,some 83,none,.call (.c (.func (.func 57) #[] #[])) [.t 81,.t 82],[]⟩,⟨3,some 18,none,.alloc 108 [.pointer none],[]⟩,⟨4,none,none,.st (.t 18) (.t 83),[]⟩]) (.seq (.ops [⟨0,some 84,none,.mov (.t 13),[]⟩,⟨1,some 85,none,.len (.t 84),[]⟩,⟨2,some 86,none,.mks 4 1 [.bool false] (.t 85) (.t 85),[]⟩,⟨3,some 19,none,.mov (.t 86),[]⟩]) (.seq (.ops [⟨0,some 87,none,.mov (.t 12),[]⟩,⟨1,some 88,none,.mks 118 48 [.slice none 0 0,.slice none 0 0] (.t 87) (.t 87),[]⟩,⟨2,some 8,none,.mov (.t 88),[]⟩]) (.seq (.seq (.ops [⟨0,some 89,none,.mov (.t 8),[]⟩,⟨1,some 90,none,.len (.t 89),[]⟩,⟨2,some 91,none,.mov (.c (.int .i64 0)),[]⟩]) (.block 2 (.loop (.seq (.ops [⟨0,some 92,none,.bin .lss (.t 91) (.t 90),[]⟩]) (.seq (.ite (.t 92) .skip (.exit 2)) (.seq (.block 3 (.seq (.ops [⟨0,some 93,none,.mov (.t 91),[]⟩,⟨1,some 20,none,.mov (.t 93),[]⟩]) (.seq (.ops [⟨0,some 94,none,.mov (.t 13),[]⟩,⟨1,some 95,none,.len (.t 94),[]⟩,⟨2,some 96,none,.mks 5 1 [.int .u8 0] (.t 95) (.t 95),[]⟩,⟨3,some 21,none,.mov (.t 96),[]⟩]) (.seq (.seq (.ops [⟨0,some 97,none,.mov (.t 13),[]⟩,⟨1,some 98,none,.len (.t 97),[]⟩,⟨2,some 99,none,.mov (.c (.int .i64 0)),[]⟩]) (.block 4 (.loop (.seq (.ops [⟨0,some 100,none,.bin .lss (.t 99) (.t 98),[]⟩]) (.seq (.ite (.t 100) .skip (.exit 4)) (.seq (.block 5 (.seq (.ops [⟨0,some 101,none,.mov (.t 99),[]⟩,⟨1,some 102,none,.ixs 1 (.t 97) (.t 99),[]⟩,⟨2,some 103,none,.ld (.t 102),[]⟩,⟨3,some 22,none,.mov (.t 101),[]⟩,⟨4,some 23,none,.mov (.t 103),[]⟩]) (.dops [⟨0,some 104,none,.mov (.t 21),[]⟩,⟨1,some 105,none,.mov (.t 22),[]⟩,⟨2,some 106,none,.ld (.t 17),[]⟩,⟨3,some 107,none,.mov (.t 23),[]⟩,⟨4,some 108,none,.ixs 1 (.t 106) (.t 107),[]⟩,⟨5,some 109,none,.ld (.t 108),[]⟩,⟨6,some 110,none,.mov (.t 3),[]⟩,⟨7,some 111,none,.mov (.t 23),[]⟩,⟨8,some 112,none,.ixs 1 (.t 110) (.t 111),[]⟩,⟨9,some 113,none,.ld (.t 112),[]⟩,⟨10,some 114,none,.mov (.t 20),[]⟩,⟨11,some 115,none,.ixs 1 (.t 113) (.t 114),[]⟩,⟨12,some 116,none,.ld (.t 115),[]⟩,⟨13,some 117,none,.call (.c (.func (.func 53) #[] #[])) [.t 109,.t 116],[]⟩,⟨14,some 118,none,.ixs 1 (.t 104) (.t 105),[]⟩,⟨15,none,none,.st (.t 118) (.t 117),[]⟩]))) (.ops [⟨0,some 119,none,.bin .add (.t 99) (.c (.int .i64 1)),[]⟩,⟨1,some 99,none,.mov (.t 119),[]⟩]))))))) (.seq (.ops [⟨0,some 121,none,.ld (.t 18),[]⟩,⟨1,some 122,none,.mov (.t 21),[]⟩,⟨2,some 123,none,.call (.c (.func (.func 58) #[] #[])) [.t 121,.t 122],[]⟩,⟨3,some 120,none,.mov (.t 123),[]⟩,⟨4,some 124,none,.ext (.t 120) 0,[]⟩,⟨5,some 125,none,.ext (.t 120) 1,[]⟩,⟨6,some 126,none,.ext (.t 120) 2,[]⟩,⟨7,some 24,none,.alloc 25 [.slice none 0 0],[]⟩,⟨8,none,none,.st (.t 24) (.t 124),[]⟩,⟨9,some 25,none,.mov (.t 125),[]⟩,⟨10,some 26,none,.mov (.t 126),[]⟩]) (.seq (.seq (.ops [⟨0,some 127,none,.mov (.t 26),[]⟩,⟨1,some 128,none,.un .not (.t 127),[]⟩]) (.ite (.t 128) (.seq (.ops [⟨0,some 8,none,.mov (.c (.slice none 0 0)),[]⟩,⟨1,some 9,none,.mov (.c (.slice none 0 0)),[]⟩,⟨2,some 10,none,.mov (.c (.slice none 0 0)),[]⟩,⟨3,some 11,none,.mov (.c (.int .i64 190)),[]⟩]) .ret) .skip)) (.seq (.seq (.ops [⟨0,some 129,none,.mov (.t 25),[]⟩,⟨1,some 130,none,.len (.t 129),[]⟩,⟨2,some 131,none,.mov (.c (.int .i64 0)),[]⟩]) (.block 6 (.loop (.seq (.ops [⟨0,some 132,none,.bin .lss (.t 131) (.t 130),[]⟩]) (.seq (.ite (.t 132) .skip (.exit 6)) (.seq (.block 7 (.seq (.ops [⟨0,some 133,none,.ixs 1 (.t 129) (.t 131),[]⟩,⟨1,some 134,none,.ld (.t 133),[]⟩,⟨2,some 28,none,.mov (.t 134),[]⟩]) (.ops [⟨0,some 135,none,.mov (.t 19),[]⟩,⟨1,some 136,none,.mov (.t 28),[]⟩,⟨2,some 137,none,.ixs 1 (.t 135) (.t 136),[]⟩,⟨3,none,none,.st (.t 137) (.c (.bool true)),[]⟩]))) (.ops [⟨0,some 138,none,.bin .add (.t 131) (.c (.int .i64 1)),[]⟩,⟨1,some 131,none,.mov (.t 138),[]⟩]))))))) (.seq (.ops [⟨0,some 139,none,.mkf 94 [] [.t 18,.t 24,.t 17],[]⟩,⟨1,some 29,none,.mov (.t 139),[]⟩]) (.seq (.ops [⟨0,some 140,none,.mov (.t 8),[]⟩,⟨1,some 141,none,.mov (.t 20),[]⟩,⟨2,some 142,none,.ixs 2 (.t 140) (.t 141),[]⟩,⟨3,some 30,none,.mov (.t 142),[]⟩]) (.seq (.seq (.ops [⟨0,some 143,none,.mov (.t 13),[]⟩,⟨1,some 144,none,.len (.t 143),[]⟩,⟨2,some 145,none,.mov (.c (.int .i64 0)),[]⟩]) (.block 8 (.loop (.seq (.ops [⟨0,some 146,none,.bin .lss (.t 145) (.t 144),[]⟩]) (.seq (.ite (.t 146) .skip (.exit 8)) (.seq (.block 9 (.seq (.ops [⟨0,some 147,none,.ixs 1 (.t 143) (.t 145),[]⟩,⟨1,some 148,none,.ld (.t 147),[]⟩,⟨2,some 32,none,.mov (.t 148),[]⟩]) (.dops [⟨0,some 149,none,.mov (.t 30),[]⟩,⟨1,some 150,none,.mov (.t 30),[]⟩,⟨2,some 151,none,.nil (.t 150),[]⟩,⟨3,some 152,none,.fad 0 (.t 151),[]⟩,⟨4,some 153,none,.ld (.t 152),[]⟩,⟨5,some 154,none,.mov (.t 29),[]⟩,⟨6,some 155,none,.mov (.t 32),[]⟩,⟨7,some 156,none,.call (.t 154) [.t 155],[4]⟩,⟨8,some 157,none,.bsl 5 1 [.int .u8 0] [(0,(1,.t 156))],[4]⟩,⟨9,some 158,none,.app 5 1 [.int .u8 0] (.t 153) (.t 157),[]⟩,⟨10,some 159,none,.nil (.t 149),[]⟩,⟨11,some 160,none,.fad 0 (.t 159),[]⟩,⟨12,none,none,.st (.t 160) (.t 158),[]⟩]))) (.ops [⟨0,some 161,none,.bin .add (.t 145) (.c (.int .i64 1)),[]⟩,⟨1,some 145,none,.mov (.t 161),[]⟩]))))))) (.seq (.ops [⟨0,some 162,none,.mov (.t 9),[]⟩,⟨1,some 163,none,.len (.t 162),[]⟩,⟨2,some 164,none,.mov (.c (.int .i64 0)),[]⟩]) (.block 10 (.loop (.seq (.ops [⟨0,some 165,none,.bin .lss (.t 164) (.t 163),[]⟩]) (.seq (.ite (.t 165) .skip (.exit 10)) (.seq (.block 11 (.seq (.ops [⟨0,some 166,none,.ixs 1 (.t 162) (.t 164),[]⟩,⟨1,some 167,none,.ld (.t 166),[]⟩,⟨2,some 34,none,.mov (.t 167),[]⟩]) (.dops [⟨0,some 168,none,.mov (.t 30),[]⟩,⟨1,some 169,none,.mov (.t 30),[]⟩,⟨2,some 170,none,.nil (.t 169),[]⟩,⟨3,some 171,none,.fad 1 (.t 170),[]⟩,⟨4,some 172,none,.ld (.t 171),[]⟩,⟨5,some 173,none,.mov (.t 29),[]⟩,⟨6,some 174,none,.mov (.t 34),[]⟩,⟨7,some 175,none,.call (.t 173) [.t 174],[4]⟩,⟨8,some 176,none,.bsl 5 1 [.int .u8 0] [(0,(1,.t 175))],[4]⟩,⟨9,some 177,none,.app 5 1 [.int .u8 0] (.t 172) (.t 176),[]⟩,⟨10,some 178,none,.nil (.t 168),[]⟩,⟨11,some 179,none,.fad 1 (.t 178),[]⟩,⟨12,none,none,.st (.t 179) (.t 177),[]⟩]))) (.ops [⟨0,some 180,none,.bin .add (.t 164) (.c (.int .i64 1)),[]⟩,⟨1,some 164,none,.mov (.t 180),[]⟩]))))))))))))))))) (.ops [⟨0,some 181,none,.bin .add (.t 91) (.c (.int .i64 1)),[]⟩,⟨1,some 91,none,.mov (.t 181),[]⟩]))))))) (.seq (.seq (.ops [⟨0,some 182,none,.mov (.t 13),[]⟩,⟨1,some 183,none,.len (.t 182),[]⟩,⟨2,some 184,none,.mov (.c (.int .i64 0)),[]⟩]) (.block 12 (.loop (.seq (.ops [⟨0,some 185,none,.bin .lss (.t 184) (.t 183),[]⟩]) (.seq (.ite (.t 185) .skip (.exit 12)) (.seq (.block 13 (.seq (.ops [⟨0,some 186,none,.mov (.t 184),[]⟩,⟨1,some 187,none,.ixs 1 (.t 182) (.t 184),[]⟩,⟨2,some 188,none,.ld (.t 187),[]⟩,⟨3,some 35,none,.mov (.t 186),[]⟩,⟨4,some 36,none,.mov (.t 188),[]⟩]) (.seq (.ops [⟨0,some 189,none,.mov (.t 19),[]⟩,⟨1,some 190,none,.mov (.t 35),[]⟩,⟨2,some 191,none,.ixs 1 (.t 189) (.t 190),[]⟩,⟨3,some 192,none,.ld (.t 191),[]⟩]) (.ite (.t 192) (.ops [⟨0,some 193,none,.mov (.t 10),[]⟩,⟨1,some 194,none,.mov (.t 36),[]⟩,⟨2,some 195,none,.bsl 3 1 [.int .i64 0] [(0,(1,.t 194))],[]⟩,⟨3,some 196,none,.app 3 8 [.int .i64 0] (.t 193) (.t 195),[]⟩,⟨4,some 10,none,.mov (.t 196),[]⟩]) .skip)))) (.ops [⟨0,some 197,none,.bin .add (.t 184) (.c (.int .i64 1)),[]⟩,⟨1,some 184,none,.mov (.t 197),[]⟩]))))))) (.seq (.ops [⟨0,some 198,none,.mov (.t 8),[]⟩,⟨1,some 199,none,.mov (.t 9),[]⟩,⟨2,some 200,none,.mov (.t 10),[]⟩,⟨3,some 8,none,.mov (.t 198),[]⟩,⟨4,some 9,none,.mov (.t 199),[]⟩,⟨5,some 10,none,.mov (.t 200),[]⟩,⟨6,some 11,none,.mov (.c (.int .i64 0)),[]⟩]) .ret)))))))))))))
attribute [irreducible] c_mend_work
theorem run_mend_work {args : List Value} {w : World} {K : Value → World → Prop} (hn : args.length ≤ 201) (h : WP Try.prog c_mend_work (endQ [.t 8, .t 9, .t 10, .t 11] K) (initT args) w) : CallV Try.prog 60 args w K :=
  call_of follows Try.func60 (by kernel_rfl) (by kernel_rfl) hn h
end Go.Proofs.Ytbaljbadlfopgaa.Fw
namespace Go.Proofs.Ytbaljbadlfopgaa.Fw
open Go Go.Fw
theorem mend_work_family (w : World) (f k m : Int) (s : Value) (hf : f ≠ 0) (hf1 : f ≠ 1) : CallV Try.prog 60 [.int .i64 f, .int .i64 k, .int .i64 m, s] w fun v w' => v = .tuple #[.slice none 0 0, .slice none 0 0, .slice none 0 0, .int .i64 2] ∧ w' = w := by
  refine run_mend_work (by simp) ?_
  simp only [c_mend_work, WS, ↓reduceIte, Nat.reduceEqDiff, reduceCtorEq]
  simp (maxSteps := 1000000) (disch := omega) only [WS, ↓reduceIte, Nat.reduceEqDiff, reduceCtorEq, AS]
end Go.Proofs.Ytbaljbadlfopgaa.Fw

set_option linter.unusedVariables false
set_option linter.unusedSimpArgs false
set_option maxRecDepth 100000
set_option maxHeartbeats 1000000
namespace Go.Proofs.Ytbaljbadlfopgaa.Fw
open Go Go.Fw Go.Proofs
attribute [local irreducible] stepI
end Go.Proofs.Ytbaljbadlfopgaa.Fw
namespace Go.Proofs.Ytbaljbadlfopgaa.Fw
open Go Go.Fw
end Go.Proofs.Ytbaljbadlfopgaa.Fw

set_option linter.unusedVariables false
set_option linter.unusedSimpArgs false
set_option maxRecDepth 100000
set_option maxHeartbeats 1000000
namespace Go.Proofs.Ytbaljbadlfopgaa.Fw
open Go Go.Fw Go.Proofs
attribute [local irreducible] stepI
def c_gf8_Div : C := .seq (.ops [⟨0,some 4,none,.mov (.c (.int .u8 0)),[]⟩,⟨1,some 5,none,.mov (.c (.int .i64 0)),[]⟩]) (.seq (.ops [⟨0,some 9,none,.mov (.t 1),[]⟩,⟨1,some 10,none,.call (.c (.func (.func 95) #[] #[])) [.t 9],[]⟩,⟨2,some 8,none,.mov (.t 10),[]⟩,⟨3,some 11,none,.ext (.t 8) 0,[]⟩,⟨4,some 12,none,.ext (.t 8) 1,[]⟩,⟨5,some 6,none,.mov (.t 11),[]⟩,⟨6,some 7,none,.mov (.t 12),[]⟩]) (.seq (.seq (.ops [⟨0,some 13,none,.mov (.t 7),[]⟩,⟨1,some 14,none,.bin .neq (.t 13) (.c (.int .i64 0)),[]⟩]) (.ite (.t 14) (.seq (.ops [⟨0,some 15,none,.mov (.t 7),[]⟩,⟨1,some 4,none,.mov (.c (.int .u8 0)),[]⟩,⟨2,some 5,none,.mov (.t 15),[]⟩]) .ret) .skip)) (.seq (.ops [⟨0,some 16,none,.mov (.t 0),[]⟩,⟨1,some 17,none,.mov (.t 6),[]⟩,⟨2,some 18,none,.call (.c (.func (.func 53) #[] #[])) [.t 16,.t 17],[]⟩,⟨3,some 4,none,.mov (.t 18),[]⟩,⟨4,some 5,none,.mov (.c (.int .i64 0)),[]⟩]) .ret)))
attribute [irreducible] c_gf8_Div
theorem run_gf8_Div {args : List Value} {w : World} {K : Value → World → Prop} (hn : args.length ≤ 19) (h : WP Try.prog c_gf8_Div (endQ [.t 4, .t 5] K) (initT args) w) : CallV Try.prog 61 args w K :=
  call_of follows Try.func61 (by kernel_rfl) (by kernel_rfl) hn h
def c_gf8_Inv : C := .seq (.ops [⟨0,some 2,none,.mov (.c (.int .u8 0)),[]⟩,⟨1,some 3,none,.mov (.c (.int .i64 0)),[]⟩]) (.seq (.seq (.ops [⟨0,some 4,none,.mov (.t 0),[]⟩,⟨1,some 5,none,.bin .eql (.t 4) (.c (.int .u8 0)),[]⟩]) (.ite (.t 5) (.seq (.ops [⟨0,some 2,none,.mov (.c (.int .u8 0)),[]⟩,⟨1,some 3,none,.mov (.c (.int .i64 20)),[]⟩]) .ret) .skip)) (.seq (.ops [⟨0,some 6,none,.mov (.t 0),[]⟩,⟨1,some 7,none,.call (.c (.func (.func 134) #[] #[])) [.t 6,.c (.int .i64 254)],[]⟩,⟨2,some 2,none,.mov (.t 7),[]⟩,⟨3,some 3,none,.mov (.c (.int .i64 0)),[]⟩]) .ret))
attribute [irreducible] c_gf8_Inv
theorem run_gf8_Inv {args : List Value} {w : World} {K : Value → World → Prop} (hn : args.length ≤ 8) (h : WP Try.prog c_gf8_Inv (endQ [.t 2, .t 3] K) (initT args) w) : CallV Try.prog 95 args w K :=
  call_of follows Try.func95 (by kernel_rfl) (by kernel_rfl) hn h
def c_gf8_power : C := .seq (.ops [⟨0,some 4,none,.mov (.c (.int .u8 0)),[]⟩]) (.seq (.ops [⟨0,some 5,none,.mov (.c (.int .u8 1)),[]⟩]) (.seq (.block 0 (.loop (.seq (.seq (.ops [⟨0,some 6,none,.mov (.t 1),[]⟩,⟨1,some 7,none,.bin .gtr (.t 6) (.c (.int .i64 0)),[]⟩]) (.ite (.t 7) .skip (.exit 0))) (.seq (.block 1 (.seq (.seq (.ops [⟨0,some 10,none,.mov (.t 1),[]⟩,⟨1,some 11,none,.bin .and (.t 10) (.c (.int .i64 1)),[]⟩,⟨2,some 12,none,.bin .neq (.t 11) (.c (.int .i64 0)),[]⟩]) (.ite (.t 12) (.ops [⟨0,some 13,none,.mov (.t 5),[]⟩,⟨1,some 14,none,.mov (.t 0),[]⟩,⟨2,some 15,none,.call (.c (.func (.func 53) #[] #[])) [.t 13,.t 14],[]⟩,⟨3,some 5,none,.mov (.t 15),[]⟩]) .skip)) (.ops [⟨0,some 16,none,.mov (.t 0),[]⟩,⟨1,some 17,none,.mov (.t 0),[]⟩,⟨2,some 18,none,.call (.c (.func (.func 53) #[] #[])) [.t 16,.t 17],[]⟩,⟨3,some 0,none,.mov (.t 18),[]⟩]))) (.ops [⟨0,some 8,none,.mov (.t 1),[]⟩,⟨1,some 9,none,.bin .shr (.t 8) (.c (.int .u64 1)),[]⟩,⟨2,some 1,none,.mov (.t 9),[]⟩]))))) (.seq (.ops [⟨0,some 19,none,.mov (.t 5),[]⟩,⟨1,some 4,none,.mov (.t 19),[]⟩]) .ret)))
attribute [irreducible] c_gf8_power
theorem run_gf8_power {args : List Value} {w : World} {K : Value → World → Prop} (hn : args.length ≤ 20) (h : WP Try.prog c_gf8_power (endQ [.t 4] K) (initT args) w) : CallV Try.prog 134 args w K :=
  call_of follows Try.func134 (by kernel_rfl) (by kernel_rfl) hn h
end Go.Proofs.Ytbaljbadlfopgaa.Fw
namespace Go.Proofs.Ytbaljbadlfopgaa.Fw
open Go Go.Fw
theorem pw254 : ∀ i < 8, 254 / 2 ^ i ≠ 0 ∧ (254 / 2 ^ i % 2 = if i = 0 then 0 else 1) := by decide +kernel
theorem gf8_Inv_spec (w : World) (a : El 8) (h0 : a ≠ 0) : CallV Try.prog 95 [.int .u8 (a.v.toNat : Int)] w fun v w' => v = .tuple #[.int .u8 (a.inv.v.toNat : Int), .int .i64 0] ∧ w' = w := by
  refine run_gf8_Inv (by simp) ?_
  simp only [c_gf8_Inv, WS, ↓reduceIte, Nat.reduceEqDiff, reduceCtorEq]
  have d0 : decide ((a.v.toNat : Int) = 0) = false := decide_eq_false fun e => h0 ((el_zero _).mp e)
  simp (maxSteps := 1000000) (disch := omega) only [WS, ↓reduceIte, Nat.reduceEqDiff, reduceCtorEq, AS, d0]
  have hp : CallV Try.prog 134 [.int .u8 (a.v.toNat : Int), .int .i64 254] w fun v w' => v = .int .u8 (a.inv.v.toNat : Int) ∧ w' = w := by
    refine run_gf8_power (by simp) ?_
    simp only [c_gf8_power, WS, ↓reduceIte, Nat.reduceEqDiff, reduceCtorEq]
    refine loop_of (fun t w2 => w2 = w ∧ ∃ i : Nat, t 1 = .int .i64 ((254 / 2 ^ i : Nat) : Int) ∧ i ≤ 8 ∧ t 0 = .int .u8 ((sqn a i).v.toNat : Int) ∧ t 5 = .int .u8 ((pin a (i - 1)).v.toNat : Int)) (fun t _ => (toI (t 1)).toNat) ⟨rfl, 0, rfl, by omega, by simp only [WS, ↓reduceIte, Nat.reduceEqDiff, reduceCtorEq]; rfl, rfl⟩ ?_
    rintro t w2 ⟨rfl, i, t1, hi, t0, t5⟩
    by_cases hlt : i < 8
    · obtain ⟨q1, q2⟩ := pw254 i hlt
      have hdd : 254 / 2 ^ i / 2 = 254 / 2 ^ (i + 1) := by rw [Nat.div_div_eq_div_mul, Nat.pow_succ]
      have hle : 254 / 2 ^ i ≤ 254 := Nat.div_le_self _ _
      generalize 254 / 2 ^ i = r at q1 q2 hdd t1 hle
      have e1 : bitsOp .and .i64 (r : Int) 1 = ((r % 2 : Nat) : Int) := by
        rw [show (1 : Int) = ((1 : Nat) : Int) from rfl, bits_and fits_i64 (by omega) (by decide), Nat.and_one_is_mod]
      have e2 : shrV .i64 (r : Int) 1 = ((254 / 2 ^ (i + 1) : Nat) : Int) := by
        rw [show (1 : Int) = ((1 : Nat) : Int) from rfl, shr_nat .i64 r 1 (by decide), Nat.shiftRight_eq_div_pow, Nat.pow_one, hdd]
      have hlt2 : 254 / 2 ^ (i + 1) < r := by omega
      by_cases hi0 : i = 0
      · subst hi0
        rw [if_pos rfl] at q2
        simp (maxSteps := 1000000) (disch := omega) only [WS, ↓reduceIte, Nat.reduceEqDiff, reduceCtorEq, AS, t0, t1, t5, e1, q2, show decide (((0 : Nat) : Int) ≠ 0) = false from rfl]
        refine X_call0 ((gf8_Mul_spec w2 (sqn a 0) (sqn a 0)).mono ?_)
        rintro _ w3 ⟨rfl, rfl⟩
        simp (maxSteps := 1000000) (disch := omega) only [WS, ↓reduceIte, Nat.reduceEqDiff, reduceCtorEq, AS, t0, t1, t5, X_shr, Int.reduceLE, e2]
        exact ⟨⟨1, rfl, by omega, rfl, rfl⟩, by simp only [Int.toNat_natCast]; exact hlt2⟩
      · rw [if_neg hi0] at q2
        obtain ⟨j, rfl⟩ : ∃ j, i = j + 1 := ⟨i - 1, by omega⟩
        rw [Nat.add_sub_cancel] at t5
        simp (maxSteps := 1000000) (disch := omega) only [WS, ↓reduceIte, Nat.reduceEqDiff, reduceCtorEq, AS, t0, t1, t5, e1, q2, show decide (((1 : Nat) : Int) ≠ 0) = true from rfl]
        refine X_call0 ((gf8_Mul_spec w2 (pin a j) (sqn a (j + 1))).mono ?_)
        rintro _ w3 ⟨rfl, rfl⟩
        simp (maxSteps := 1000000) (disch := omega) only [WS, ↓reduceIte, Nat.reduceEqDiff, reduceCtorEq, AS, t0, t1, t5]
        refine X_call0 ((gf8_Mul_spec w3 (sqn a (j + 1)) (sqn a (j + 1))).mono ?_)
        rintro _ w4 ⟨rfl, rfl⟩
        simp (maxSteps := 1000000) (disch := omega) only [WS, ↓reduceIte, Nat.reduceEqDiff, reduceCtorEq, AS, t0, t1, t5, X_shr, Int.reduceLE, e2]
        exact ⟨⟨j + 2, rfl, by omega, rfl, rfl⟩, by simp only [Int.toNat_natCast]; exact hlt2⟩
    · obtain rfl : i = 8 := by omega
      rw [show (8 : Nat) - 1 = 7 from rfl, pin_inv8] at t5
      simp (maxSteps := 1000000) (disch := omega) only [WS, ↓reduceIte, Nat.reduceEqDiff, reduceCtorEq, AS, t0, t1, t5, show decide (((254 / 2 ^ 8 : Nat) : Int) > 0) = false from rfl]
  refine X_call0 (hp.mono ?_)
  rintro _ w1 ⟨rfl, rfl⟩
  simp (maxSteps := 1000000) (disch := omega) only [WS, ↓reduceIte, Nat.reduceEqDiff, reduceCtorEq, AS]
theorem gf8_Div_spec (w : World) (a b : El 8) (h0 : b ≠ 0) : CallV Try.prog 61 [.int .u8 (a.v.toNat : Int), .int .u8 (b.v.toNat : Int)] w fun v w' => v = .tuple #[.int .u8 ((a * b.inv).v.toNat : Int), .int .i64 0] ∧ w' = w := by
  refine run_gf8_Div (by simp) ?_
  simp only [c_gf8_Div, WS, ↓reduceIte, Nat.reduceEqDiff, reduceCtorEq]
  refine X_call0 ((gf8_Inv_spec w b h0).mono ?_)
  rintro _ w1 ⟨rfl, rfl⟩
  simp (maxSteps := 1000000) (disch := omega) only [WS, ↓reduceIte, Nat.reduceEqDiff, reduceCtorEq, AS, show decide ((0 : Int) ≠ 0) = false from rfl]
  refine X_call0 ((gf8_Mul_spec w1 a b.inv).mono ?_)
  rintro _ w2 ⟨rfl, rfl⟩
  simp (maxSteps := 1000000) (disch := omega) only [WS, ↓reduceIte, Nat.reduceEqDiff, reduceCtorEq, AS]
end Go.Proofs.Ytbaljbadlfopgaa.Fw
