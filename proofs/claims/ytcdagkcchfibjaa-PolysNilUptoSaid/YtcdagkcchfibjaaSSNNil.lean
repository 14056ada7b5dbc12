import Derived.Test.YtcdagkcchfibjaaProg
import Derived.Test.YtcdagkcchfibjaaFwTNil
import Derived.Test.YtcdagkcchfibjaaSS04jNil
set_option linter.all false
set_option linter.unusedVariables false
set_option linter.unusedSimpArgs false
set_option maxRecDepth 100000
set_option maxHeartbeats 1000000
namespace Go.Proofs.Ytcdagkcchfibjaa.Fw
open Go Go.Fw Go.Proofs
attribute [local irreducible] stepI
def c_culletlaw04_Rings_interpolate : C := .seq (.ops [⟨0, (some 4), none, .box 25 (.t 0), []⟩, ⟨1, (some 8), none, .mov (.c (.slice none 0 0)), []⟩, ⟨2, (some 9), none, .mov (.c (.int .i64 0)), []⟩]) (.seq (.seq (.ops [⟨0, (some 14), none, .mov (.t 1), []⟩]) (.ite (.t 14) (.seq (.dops [⟨0, (some 16), none, .fad 1 (.t 4), []⟩, ⟨1, (some 17), none, .ld (.t 16), []⟩, ⟨2, (some 18), none, .mov (.t 2), []⟩, ⟨3, (some 19), none, .call (.c (.func (.func 38) #[] #[])) [.t 18], [1]⟩, ⟨4, (some 20), none, .mov (.t 3), []⟩, ⟨5, (some 21), none, .call (.c (.func (.func 38) #[] #[])) [.t 20], [1]⟩, ⟨6, (some 22), none, .call (.c (.func (.func 47) #[] #[])) [.t 17, .t 19, .t 21], []⟩, ⟨7, (some 15), none, .mov (.t 22), []⟩, ⟨8, (some 23), none, .ext (.t 15) 0, []⟩, ⟨9, (some 24), none, .ext (.t 15) 1, []⟩, ⟨10, (some 10), none, .mov (.t 23), []⟩, ⟨11, (some 11), none, .mov (.t 24), []⟩]) (.seq (.ops [⟨0, (some 25), none, .mov (.t 10), []⟩, ⟨1, (some 26), none, .mov (.t 11), []⟩, ⟨2, (some 8), none, .mov (.t 25), []⟩, ⟨3, (some 9), none, .mov (.t 26), []⟩]) .ret)) .skip)) (.seq (.dops [⟨0, (some 28), none, .fad 0 (.t 4), []⟩, ⟨1, (some 29), none, .ld (.t 28), []⟩, ⟨2, (some 30), none, .mov (.t 2), []⟩, ⟨3, (some 31), none, .call (.c (.func (.func 40) #[] #[])) [.t 30], [1]⟩, ⟨4, (some 32), none, .mov (.t 3), []⟩, ⟨5, (some 33), none, .call (.c (.func (.func 40) #[] #[])) [.t 32], [1]⟩, ⟨6, (some 34), none, .call (.c (.func (.func 48) #[] #[])) [.t 29, .t 31, .t 33], []⟩, ⟨7, (some 27), none, .mov (.t 34), []⟩, ⟨8, (some 35), none, .ext (.t 27) 0, []⟩, ⟨9, (some 36), none, .ext (.t 27) 1, []⟩, ⟨10, (some 12), none, .mov (.t 35), []⟩, ⟨11, (some 13), none, .mov (.t 36), []⟩]) (.seq (.ops [⟨0, (some 37), none, .mov (.t 12), []⟩, ⟨1, (some 38), none, .call (.c (.func (.func 41) #[] #[])) [.t 37], []⟩, ⟨2, (some 39), none, .mov (.t 13), []⟩, ⟨3, (some 8), none, .mov (.t 38), []⟩, ⟨4, (some 9), none, .mov (.t 39), []⟩]) .ret)))
attribute [irreducible] c_culletlaw04_Rings_interpolate
theorem run_culletlaw04_Rings_interpolate {args : List Value} {w : World} {K : Value → World → Prop} (hn : args.length ≤ 40) (h : WP Try.prog c_culletlaw04_Rings_interpolate (endQ [.t 8, .t 9] K) (initT args) w) : CallV Try.prog 20 args w K :=
  call_of follows Try.func20 (by kernel_rfl) (by kernel_rfl) hn h
def c_culletlaw04_Rings_trim : C := .seq (.ops [⟨0, (some 3), none, .box 25 (.t 0), []⟩, ⟨1, (some 6), none, .mov (.c (.slice none 0 0)), []⟩]) (.seq (.seq (.ops [⟨0, (some 7), none, .mov (.t 1), []⟩]) (.ite (.t 7) (.seq (.dops [⟨0, (some 8), none, .fad 1 (.t 3), []⟩, ⟨1, (some 9), none, .ld (.t 8), []⟩, ⟨2, (some 10), none, .mov (.t 2), []⟩, ⟨3, (some 11), none, .call (.c (.func (.func 38) #[] #[])) [.t 10], [1]⟩, ⟨4, (some 12), none, .call (.c (.func (.func 49) #[] #[])) [.t 9, .t 11], []⟩, ⟨5, (some 6), none, .mov (.t 12), []⟩]) .ret) .skip)) (.seq (.dops [⟨0, (some 13), none, .fad 0 (.t 3), []⟩, ⟨1, (some 14), none, .ld (.t 13), []⟩, ⟨2, (some 15), none, .mov (.t 2), []⟩, ⟨3, (some 16), none, .call (.c (.func (.func 40) #[] #[])) [.t 15], [1]⟩, ⟨4, (some 17), none, .call (.c (.func (.func 50) #[] #[])) [.t 14, .t 16], []⟩, ⟨5, (some 18), none, .call (.c (.func (.func 41) #[] #[])) [.t 17], []⟩, ⟨6, (some 6), none, .mov (.t 18), []⟩]) .ret))
attribute [irreducible] c_culletlaw04_Rings_trim
theorem run_culletlaw04_Rings_trim {args : List Value} {w : World} {K : Value → World → Prop} (hn : args.length ≤ 19) (h : WP Try.prog c_culletlaw04_Rings_trim (endQ [.t 6] K) (initT args) w) : CallV Try.prog 22 args w K :=
  call_of follows Try.func22 (by kernel_rfl) (by kernel_rfl) hn h
def c_culletlaw04_Rings_divMod : C := .seq (.ops [⟨0, (some 4), none, .box 25 (.t 0), []⟩, ⟨1, (some 8), none, .mov (.c (.slice none 0 0)), []⟩, ⟨2, (some 9), none, .mov (.c (.slice none 0 0)), []⟩, ⟨3, (some 10), none, .mov (.c (.int .i64 0)), []⟩]) (.seq (.seq (.ops [⟨0, (some 17), none, .mov (.t 1), []⟩]) (.ite (.t 17) (.seq (.dops [⟨0, (some 19), none, .fad 1 (.t 4), []⟩, ⟨1, (some 20), none, .ld (.t 19), []⟩, ⟨2, (some 21), none, .mov (.t 2), []⟩, ⟨3, (some 22), none, .call (.c (.func (.func 38) #[] #[])) [.t 21], [1]⟩, ⟨4, (some 23), none, .mov (.t 3), []⟩, ⟨5, (some 24), none, .call (.c (.func (.func 38) #[] #[])) [.t 23], [1]⟩, ⟨6, (some 25), none, .call (.c (.func (.func 55) #[] #[])) [.t 20, .t 22, .t 24], []⟩, ⟨7, (some 18), none, .mov (.t 25), []⟩, ⟨8, (some 26), none, .ext (.t 18) 0, []⟩, ⟨9, (some 27), none, .ext (.t 18) 1, []⟩, ⟨10, (some 28), none, .ext (.t 18) 2, []⟩, ⟨11, (some 11), none, .mov (.t 26), []⟩, ⟨12, (some 12), none, .mov (.t 27), []⟩, ⟨13, (some 13), none, .mov (.t 28), []⟩]) (.seq (.ops [⟨0, (some 29), none, .mov (.t 11), []⟩, ⟨1, (some 30), none, .mov (.t 12), []⟩, ⟨2, (some 31), none, .mov (.t 13), []⟩, ⟨3, (some 8), none, .mov (.t 29), []⟩, ⟨4, (some 9), none, .mov (.t 30), []⟩, ⟨5, (some 10), none, .mov (.t 31), []⟩]) .ret)) .skip)) (.seq (.dops [⟨0, (some 33), none, .fad 0 (.t 4), []⟩, ⟨1, (some 34), none, .ld (.t 33), []⟩, ⟨2, (some 35), none, .mov (.t 2), []⟩, ⟨3, (some 36), none, .call (.c (.func (.func 40) #[] #[])) [.t 35], [1]⟩, ⟨4, (some 37), none, .mov (.t 3), []⟩, ⟨5, (some 38), none, .call (.c (.func (.func 40) #[] #[])) [.t 37], [1]⟩, ⟨6, (some 39), none, .call (.c (.func (.func 56) #[] #[])) [.t 34, .t 36, .t 38], []⟩, ⟨7, (some 32), none, .mov (.t 39), []⟩, ⟨8, (some 40), none, .ext (.t 32) 0, []⟩, ⟨9, (some 41), none, .ext (.t 32) 1, []⟩, ⟨10, (some 42), none, .ext (.t 32) 2, []⟩, ⟨11, (some 14), none, .mov (.t 40), []⟩, ⟨12, (some 15), none, .mov (.t 41), []⟩, ⟨13, (some 16), none, .mov (.t 42), []⟩]) (.seq (.ops [⟨0, (some 43), none, .mov (.t 14), []⟩, ⟨1, (some 44), none, .call (.c (.func (.func 41) #[] #[])) [.t 43], []⟩, ⟨2, (some 45), none, .mov (.t 15), []⟩, ⟨3, (some 46), none, .call (.c (.func (.func 41) #[] #[])) [.t 45], []⟩, ⟨4, (some 47), none, .mov (.t 16), []⟩, ⟨5, (some 8), none, .mov (.t 44), []⟩, ⟨6, (some 9), none, .mov (.t 46), []⟩, ⟨7, (some 10), none, .mov (.t 47), []⟩]) .ret)))
attribute [irreducible] c_culletlaw04_Rings_divMod
theorem run_culletlaw04_Rings_divMod {args : List Value} {w : World} {K : Value → World → Prop} (hn : args.length ≤ 48) (h : WP Try.prog c_culletlaw04_Rings_divMod (endQ [.t 8, .t 9, .t 10] K) (initT args) w) : CallV Try.prog 26 args w K :=
  call_of follows Try.func26 (by kernel_rfl) (by kernel_rfl) hn h
def c_culletlaw04_Rings_partial : C := .seq (.ops [⟨0, (some 5), none, .box 25 (.t 0), []⟩, ⟨1, (some 10), none, .mov (.c (.slice none 0 0)), []⟩, ⟨2, (some 11), none, .mov (.c (.slice none 0 0)), []⟩, ⟨3, (some 12), none, .mov (.c (.slice none 0 0)), []⟩, ⟨4, (some 13), none, .mov (.c (.int .i64 0)), []⟩]) (.seq (.seq (.ops [⟨0, (some 22), none, .mov (.t 1), []⟩]) (.ite (.t 22) (.seq (.dops [⟨0, (some 24), none, .fad 1 (.t 5), []⟩, ⟨1, (some 25), none, .ld (.t 24), []⟩, ⟨2, (some 26), none, .mov (.t 2), []⟩, ⟨3, (some 27), none, .call (.c (.func (.func 38) #[] #[])) [.t 26], [1]⟩, ⟨4, (some 28), none, .mov (.t 3), []⟩, ⟨5, (some 29), none, .call (.c (.func (.func 38) #[] #[])) [.t 28], [1]⟩, ⟨6, (some 30), none, .mov (.t 4), []⟩, ⟨7, (some 31), none, .call (.c (.func (.func 57) #[] #[])) [.t 25, .t 27, .t 29, .t 30], []⟩, ⟨8, (some 23), none, .mov (.t 31), []⟩, ⟨9, (some 32), none, .ext (.t 23) 0, []⟩, ⟨10, (some 33), none, .ext (.t 23) 1, []⟩, ⟨11, (some 34), none, .ext (.t 23) 2, []⟩, ⟨12, (some 35), none, .ext (.t 23) 3, []⟩, ⟨13, (some 14), none, .mov (.t 32), []⟩, ⟨14, (some 15), none, .mov (.t 33), []⟩, ⟨15, (some 16), none, .mov (.t 34), []⟩, ⟨16, (some 17), none, .mov (.t 35), []⟩]) (.seq (.ops [⟨0, (some 36), none, .mov (.t 14), []⟩, ⟨1, (some 37), none, .mov (.t 15), []⟩, ⟨2, (some 38), none, .mov (.t 16), []⟩, ⟨3, (some 39), none, .mov (.t 17), []⟩, ⟨4, (some 10), none, .mov (.t 36), []⟩, ⟨5, (some 11), none, .mov (.t 37), []⟩, ⟨6, (some 12), none, .mov (.t 38), []⟩, ⟨7, (some 13), none, .mov (.t 39), []⟩]) .ret)) .skip)) (.seq (.dops [⟨0, (some 41), none, .fad 0 (.t 5), []⟩, ⟨1, (some 42), none, .ld (.t 41), []⟩, ⟨2, (some 43), none, .mov (.t 2), []⟩, ⟨3, (some 44), none, .call (.c (.func (.func 40) #[] #[])) [.t 43], [1]⟩, ⟨4, (some 45), none, .mov (.t 3), []⟩, ⟨5, (some 46), none, .call (.c (.func (.func 40) #[] #[])) [.t 45], [1]⟩, ⟨6, (some 47), none, .mov (.t 4), []⟩, ⟨7, (some 48), none, .call (.c (.func (.func 58) #[] #[])) [.t 42, .t 44, .t 46, .t 47], []⟩, ⟨8, (some 40), none, .mov (.t 48), []⟩, ⟨9, (some 49), none, .ext (.t 40) 0, []⟩, ⟨10, (some 50), none, .ext (.t 40) 1, []⟩, ⟨11, (some 51), none, .ext (.t 40) 2, []⟩, ⟨12, (some 52), none, .ext (.t 40) 3, []⟩, ⟨13, (some 18), none, .mov (.t 49), []⟩, ⟨14, (some 19), none, .mov (.t 50), []⟩, ⟨15, (some 20), none, .mov (.t 51), []⟩, ⟨16, (some 21), none, .mov (.t 52), []⟩]) (.seq (.ops [⟨0, (some 53), none, .mov (.t 18), []⟩, ⟨1, (some 54), none, .call (.c (.func (.func 41) #[] #[])) [.t 53], []⟩, ⟨2, (some 55), none, .mov (.t 19), []⟩, ⟨3, (some 56), none, .call (.c (.func (.func 41) #[] #[])) [.t 55], []⟩, ⟨4, (some 57), none, .mov (.t 20), []⟩, ⟨5, (some 58), none, .call (.c (.func (.func 41) #[] #[])) [.t 57], []⟩, ⟨6, (some 59), none, .mov (.t 21), []⟩, ⟨7, (some 10), none, .mov (.t 54), []⟩, ⟨8, (some 11), none, .mov (.t 56), []⟩, ⟨9, (some 12), none, .mov (.t 58), []⟩, ⟨10, (some 13), none, .mov (.t 59), []⟩]) .ret)))
attribute [irreducible] c_culletlaw04_Rings_partial
theorem run_culletlaw04_Rings_partial {args : List Value} {w : World} {K : Value → World → Prop} (hn : args.length ≤ 60) (h : WP Try.prog c_culletlaw04_Rings_partial (endQ [.t 10, .t 11, .t 12, .t 13] K) (initT args) w) : CallV Try.prog 28 args w K :=
  call_of follows Try.func28 (by kernel_rfl) (by kernel_rfl) hn h
def c_culletlaw04_Rings_gcd : C := .seq (.ops [⟨0, (some 4), none, .box 25 (.t 0), []⟩, ⟨1, (some 8), none, .mov (.c (.slice none 0 0)), []⟩, ⟨2, (some 9), none, .mov (.c (.int .i64 0)), []⟩]) (.seq (.seq (.ops [⟨0, (some 14), none, .mov (.t 1), []⟩]) (.ite (.t 14) (.seq (.dops [⟨0, (some 16), none, .fad 1 (.t 4), []⟩, ⟨1, (some 17), none, .ld (.t 16), []⟩, ⟨2, (some 18), none, .mov (.t 2), []⟩, ⟨3, (some 19), none, .call (.c (.func (.func 38) #[] #[])) [.t 18], [1]⟩, ⟨4, (some 20), none, .mov (.t 3), []⟩, ⟨5, (some 21), none, .call (.c (.func (.func 38) #[] #[])) [.t 20], [1]⟩, ⟨6, (some 22), none, .call (.c (.func (.func 59) #[] #[])) [.t 17, .t 19, .t 21], []⟩, ⟨7, (some 15), none, .mov (.t 22), []⟩, ⟨8, (some 23), none, .ext (.t 15) 0, []⟩, ⟨9, (some 24), none, .ext (.t 15) 1, []⟩, ⟨10, (some 10), none, .mov (.t 23), []⟩, ⟨11, (some 11), none, .mov (.t 24), []⟩]) (.seq (.ops [⟨0, (some 25), none, .mov (.t 10), []⟩, ⟨1, (some 26), none, .mov (.t 11), []⟩, ⟨2, (some 8), none, .mov (.t 25), []⟩, ⟨3, (some 9), none, .mov (.t 26), []⟩]) .ret)) .skip)) (.seq (.dops [⟨0, (some 28), none, .fad 0 (.t 4), []⟩, ⟨1, (some 29), none, .ld (.t 28), []⟩, ⟨2, (some 30), none, .mov (.t 2), []⟩, ⟨3, (some 31), none, .call (.c (.func (.func 40) #[] #[])) [.t 30], [1]⟩, ⟨4, (some 32), none, .mov (.t 3), []⟩, ⟨5, (some 33), none, .call (.c (.func (.func 40) #[] #[])) [.t 32], [1]⟩, ⟨6, (some 34), none, .call (.c (.func (.func 60) #[] #[])) [.t 29, .t 31, .t 33], []⟩, ⟨7, (some 27), none, .mov (.t 34), []⟩, ⟨8, (some 35), none, .ext (.t 27) 0, []⟩, ⟨9, (some 36), none, .ext (.t 27) 1, []⟩, ⟨10, (some 12), none, .mov (.t 35), []⟩, ⟨11, (some 13), none, .mov (.t 36), []⟩]) (.seq (.ops [⟨0, (some 37), none, .mov (.t 12), []⟩, ⟨1, (some 38), none, .call (.c (.func (.func 41) #[] #[])) [.t 37], []⟩, ⟨2, (some 39), none, .mov (.t 13), []⟩, ⟨3, (some 8), none, .mov (.t 38), []⟩, ⟨4, (some 9), none, .mov (.t 39), []⟩]) .ret)))
attribute [irreducible] c_culletlaw04_Rings_gcd
theorem run_culletlaw04_Rings_gcd {args : List Value} {w : World} {K : Value → World → Prop} (hn : args.length ≤ 40) (h : WP Try.prog c_culletlaw04_Rings_gcd (endQ [.t 8, .t 9] K) (initT args) w) : CallV Try.prog 29 args w K :=
  call_of follows Try.func29 (by kernel_rfl) (by kernel_rfl) hn h
def c_culletlaw04_Rings_degree : C := .seq (.ops [⟨0, (some 3), none, .box 25 (.t 0), []⟩, ⟨1, (some 6), none, .mov (.c (.int .i64 0)), []⟩]) (.seq (.seq (.ops [⟨0, (some 7), none, .mov (.t 1), []⟩]) (.ite (.t 7) (.seq (.dops [⟨0, (some 8), none, .fad 1 (.t 3), []⟩, ⟨1, (some 9), none, .ld (.t 8), []⟩, ⟨2, (some 10), none, .mov (.t 2), []⟩, ⟨3, (some 11), none, .call (.c (.func (.func 38) #[] #[])) [.t 10], [1]⟩, ⟨4, (some 12), none, .call (.c (.func (.func 61) #[] #[])) [.t 9, .t 11], []⟩, ⟨5, (some 6), none, .mov (.t 12), []⟩]) .ret) .skip)) (.seq (.dops [⟨0, (some 13), none, .fad 0 (.t 3), []⟩, ⟨1, (some 14), none, .ld (.t 13), []⟩, ⟨2, (some 15), none, .mov (.t 2), []⟩, ⟨3, (some 16), none, .call (.c (.func (.func 40) #[] #[])) [.t 15], [1]⟩, ⟨4, (some 17), none, .call (.c (.func (.func 62) #[] #[])) [.t 14, .t 16], []⟩, ⟨5, (some 6), none, .mov (.t 17), []⟩]) .ret))
attribute [irreducible] c_culletlaw04_Rings_degree
theorem run_culletlaw04_Rings_degree {args : List Value} {w : World} {K : Value → World → Prop} (hn : args.length ≤ 18) (h : WP Try.prog c_culletlaw04_Rings_degree (endQ [.t 6] K) (initT args) w) : CallV Try.prog 30 args w K :=
  call_of follows Try.func30 (by kernel_rfl) (by kernel_rfl) hn h
def c_polys_Ring_w_Interpolate : C := .seq (.ops [⟨0, (some 6), none, .mov (.c (.slice none 0 0)), []⟩, ⟨1, (some 7), none, .mov (.c (.int .i64 0)), []⟩]) (.seq (.seq (.ops [⟨0, (some 12), none, .mov (.t 0), []⟩, ⟨1, (some 13), none, .mov (.t 1), []⟩, ⟨2, (some 14), none, .mov (.t 2), []⟩, ⟨3, (some 15), none, .bsl 27 2 [.slice none 0 0] [(0, (1, .t 13)), (1, (1, .t 14))], []⟩, ⟨4, (some 16), none, .call (.c (.func (.func 78) #[] #[])) [.t 12, .t 15], []⟩, ⟨5, (some 8), none, .mov (.t 16), []⟩]) (.seq (.ops [⟨0, (some 17), none, .mov (.t 8), []⟩, ⟨1, (some 18), none, .bin .neq (.t 17) (.c (.int .i64 0)), []⟩]) (.ite (.t 18) (.seq (.ops [⟨0, (some 19), none, .mov (.t 8), []⟩, ⟨1, (some 6), none, .mov (.c (.slice none 0 0)), []⟩, ⟨2, (some 7), none, .mov (.t 19), []⟩]) .ret) .skip))) (.seq (.seq (.ops [⟨0, (some 20), none, .mov (.t 1), []⟩, ⟨1, (some 21), none, .len (.t 20), []⟩, ⟨2, (some 22), none, .mov (.t 2), []⟩, ⟨3, (some 23), none, .len (.t 22), []⟩, ⟨4, (some 24), none, .bin .neq (.t 21) (.t 23), []⟩]) (.ite (.t 24) (.seq (.ops [⟨0, (some 6), none, .mov (.c (.slice none 0 0)), []⟩, ⟨1, (some 7), none, .mov (.c (.int .i64 6)), []⟩]) .ret) .skip)) (.seq (.ops [⟨0, (some 25), none, .bad, []⟩, ⟨1, (some 9), none, .mov (.t 25), []⟩]) (.seq (.seq (.ops [⟨0, (some 26), none, .mov (.t 1), []⟩, ⟨1, (some 27), none, .len (.t 26), []⟩, ⟨2, (some 28), none, .mov (.c (.int .i64 0)), []⟩]) (.block 0 (.loop (.seq (.ops [⟨0, (some 29), none, .bin .lss (.t 28) (.t 27), []⟩]) (.seq (.ite (.t 29) .skip (.exit 0)) (.seq (.block 1 (.seq (.ops [⟨0, (some 30), none, .ixs 1 (.t 26) (.t 28), []⟩, ⟨1, (some 31), none, .ld (.t 30), []⟩, ⟨2, (some 11), none, .mov (.t 31), []⟩]) (.seq (.ops [⟨0, (some 32), none, .mov (.t 9), []⟩, ⟨1, (some 33), none, .mov (.t 11), []⟩, ⟨2, (some 34), none, .bad, []⟩, ⟨3, (some 35), none, .bin .add (.t 34) (.c (.int .i64 1)), []⟩, ⟨4, none, none, .bad, []⟩]) (.seq (.ops [⟨0, (some 36), none, .mov (.t 9), []⟩, ⟨1, (some 37), none, .mov (.t 11), []⟩, ⟨2, (some 38), none, .bad, []⟩, ⟨3, (some 39), none, .bin .gtr (.t 38) (.c (.int .i64 1)), []⟩]) (.ite (.t 39) (.seq (.ops [⟨0, (some 6), none, .mov (.c (.slice none 0 0)), []⟩, ⟨1, (some 7), none, .mov (.c (.int .i64 41)), []⟩]) .ret) .skip))))) (.ops [⟨0, (some 40), none, .bin .add (.t 28) (.c (.int .i64 1)), []⟩, ⟨1, (some 28), none, .mov (.t 40), []⟩]))))))) (.seq (.ops [⟨0, (some 41), none, .mov (.t 0), []⟩, ⟨1, (some 42), none, .mov (.t 1), []⟩, ⟨2, (some 43), none, .mov (.t 2), []⟩, ⟨3, (some 44), none, .call (.c (.func (.func 87) #[] #[])) [.t 41, .t 42, .t 43], []⟩, ⟨4, (some 6), none, .mov (.t 44), []⟩, ⟨5, (some 7), none, .mov (.c (.int .i64 0)), []⟩]) .ret)))))
attribute [irreducible] c_polys_Ring_w_Interpolate
theorem run_polys_Ring_w_Interpolate {args : List Value} {w : World} {K : Value → World → Prop} (hn : args.length ≤ 45) (h : WP Try.prog c_polys_Ring_w_Interpolate (endQ [.t 6, .t 7] K) (initT args) w) : CallV Try.prog 47 args w K :=
  call_of follows Try.func47 (by kernel_rfl) (by kernel_rfl) hn h
def c_polys_Ring_b_Interpolate : C := .seq (.ops [⟨0, (some 6), none, .mov (.c (.slice none 0 0)), []⟩, ⟨1, (some 7), none, .mov (.c (.int .i64 0)), []⟩]) (.seq (.seq (.ops [⟨0, (some 12), none, .mov (.t 0), []⟩, ⟨1, (some 13), none, .mov (.t 1), []⟩, ⟨2, (some 14), none, .mov (.t 2), []⟩, ⟨3, (some 15), none, .bsl 57 2 [.slice none 0 0] [(0, (1, .t 13)), (1, (1, .t 14))], []⟩, ⟨4, (some 16), none, .call (.c (.func (.func 80) #[] #[])) [.t 12, .t 15], []⟩, ⟨5, (some 8), none, .mov (.t 16), []⟩]) (.seq (.ops [⟨0, (some 17), none, .mov (.t 8), []⟩, ⟨1, (some 18), none, .bin .neq (.t 17) (.c (.int .i64 0)), []⟩]) (.ite (.t 18) (.seq (.ops [⟨0, (some 19), none, .mov (.t 8), []⟩, ⟨1, (some 6), none, .mov (.c (.slice none 0 0)), []⟩, ⟨2, (some 7), none, .mov (.t 19), []⟩]) .ret) .skip))) (.seq (.seq (.ops [⟨0, (some 20), none, .mov (.t 1), []⟩, ⟨1, (some 21), none, .len (.t 20), []⟩, ⟨2, (some 22), none, .mov (.t 2), []⟩, ⟨3, (some 23), none, .len (.t 22), []⟩, ⟨4, (some 24), none, .bin .neq (.t 21) (.t 23), []⟩]) (.ite (.t 24) (.seq (.ops [⟨0, (some 6), none, .mov (.c (.slice none 0 0)), []⟩, ⟨1, (some 7), none, .mov (.c (.int .i64 6)), []⟩]) .ret) .skip)) (.seq (.ops [⟨0, (some 25), none, .bad, []⟩, ⟨1, (some 9), none, .mov (.t 25), []⟩]) (.seq (.seq (.ops [⟨0, (some 26), none, .mov (.t 1), []⟩, ⟨1, (some 27), none, .len (.t 26), []⟩, ⟨2, (some 28), none, .mov (.c (.int .i64 0)), []⟩]) (.block 0 (.loop (.seq (.ops [⟨0, (some 29), none, .bin .lss (.t 28) (.t 27), []⟩]) (.seq (.ite (.t 29) .skip (.exit 0)) (.seq (.block 1 (.seq (.ops [⟨0, (some 30), none, .ixs 1 (.t 26) (.t 28), []⟩, ⟨1, (some 31), none, .ld (.t 30), []⟩, ⟨2, (some 11), none, .mov (.t 31), []⟩]) (.seq (.ops [⟨0, (some 32), none, .mov (.t 9), []⟩, ⟨1, (some 33), none, .mov (.t 11), []⟩, ⟨2, (some 34), none, .bad, []⟩, ⟨3, (some 35), none, .bin .add (.t 34) (.c (.int .i64 1)), []⟩, ⟨4, none, none, .bad, []⟩]) (.seq (.ops [⟨0, (some 36), none, .mov (.t 9), []⟩, ⟨1, (some 37), none, .mov (.t 11), []⟩, ⟨2, (some 38), none, .bad, []⟩, ⟨3, (some 39), none, .bin .gtr (.t 38) (.c (.int .i64 1)), []⟩]) (.ite (.t 39) (.seq (.ops [⟨0, (some 6), none, .mov (.c (.slice none 0 0)), []⟩, ⟨1, (some 7), none, .mov (.c (.int .i64 41)), []⟩]) .ret) .skip))))) (.ops [⟨0, (some 40), none, .bin .add (.t 28) (.c (.int .i64 1)), []⟩, ⟨1, (some 28), none, .mov (.t 40), []⟩]))))))) (.seq (.ops [⟨0, (some 41), none, .mov (.t 0), []⟩, ⟨1, (some 42), none, .mov (.t 1), []⟩, ⟨2, (some 43), none, .mov (.t 2), []⟩, ⟨3, (some 44), none, .call (.c (.func (.func 88) #[] #[])) [.t 41, .t 42, .t 43], []⟩, ⟨4, (some 6), none, .mov (.t 44), []⟩, ⟨5, (some 7), none, .mov (.c (.int .i64 0)), []⟩]) .ret)))))
attribute [irreducible] c_polys_Ring_b_Interpolate
theorem run_polys_Ring_b_Interpolate {args : List Value} {w : World} {K : Value → World → Prop} (hn : args.length ≤ 45) (h : WP Try.prog c_polys_Ring_b_Interpolate (endQ [.t 6, .t 7] K) (initT args) w) : CallV Try.prog 48 args w K :=
  call_of follows Try.func48 (by kernel_rfl) (by kernel_rfl) hn h
def c_polys_Ring_w_DivMod : C := .seq (.ops [⟨0, (some 6), none, .mov (.c (.slice none 0 0)), []⟩, ⟨1, (some 7), none, .mov (.c (.slice none 0 0)), []⟩, ⟨2, (some 8), none, .mov (.c (.int .i64 0)), []⟩]) (.seq (.seq (.ops [⟨0, (some 10), none, .mov (.t 0), []⟩, ⟨1, (some 11), none, .mov (.t 1), []⟩, ⟨2, (some 12), none, .mov (.t 2), []⟩, ⟨3, (some 13), none, .bsl 27 2 [.slice none 0 0] [(0, (1, .t 11)), (1, (1, .t 12))], []⟩, ⟨4, (some 14), none, .call (.c (.func (.func 78) #[] #[])) [.t 10, .t 13], []⟩, ⟨5, (some 9), none, .mov (.t 14), []⟩]) (.seq (.ops [⟨0, (some 15), none, .mov (.t 9), []⟩, ⟨1, (some 16), none, .bin .neq (.t 15) (.c (.int .i64 0)), []⟩]) (.ite (.t 16) (.seq (.ops [⟨0, (some 17), none, .mov (.t 9), []⟩, ⟨1, (some 6), none, .mov (.c (.slice none 0 0)), []⟩, ⟨2, (some 7), none, .mov (.c (.slice none 0 0)), []⟩, ⟨3, (some 8), none, .mov (.t 17), []⟩]) .ret) .skip))) (.seq (.seq (.ops [⟨0, (some 18), none, .mov (.t 2), []⟩, ⟨1, (some 19), none, .call (.c (.func (.func 91) #[] #[])) [.t 18], []⟩, ⟨2, (some 20), none, .bin .lss (.t 19) (.c (.int .i64 0)), []⟩]) (.ite (.t 20) (.seq (.ops [⟨0, (some 6), none, .mov (.c (.slice none 0 0)), []⟩, ⟨1, (some 7), none, .mov (.c (.slice none 0 0)), []⟩, ⟨2, (some 8), none, .mov (.c (.int .i64 40)), []⟩]) .ret) .skip)) (.seq (.ops [⟨0, (some 22), none, .mov (.t 0), []⟩, ⟨1, (some 23), none, .mov (.t 1), []⟩, ⟨2, (some 24), none, .mov (.t 2), []⟩, ⟨3, (some 25), none, .call (.c (.func (.func 92) #[] #[])) [.t 22, .t 23, .t 24], []⟩, ⟨4, (some 21), none, .mov (.t 25), []⟩, ⟨5, (some 26), none, .ext (.t 21) 0, []⟩, ⟨6, (some 27), none, .ext (.t 21) 1, []⟩, ⟨7, (some 6), none, .mov (.t 26), []⟩, ⟨8, (some 7), none, .mov (.t 27), []⟩]) (.seq (.ops [⟨0, (some 28), none, .mov (.t 6), []⟩, ⟨1, (some 29), none, .mov (.t 7), []⟩, ⟨2, (some 6), none, .mov (.t 28), []⟩, ⟨3, (some 7), none, .mov (.t 29), []⟩, ⟨4, (some 8), none, .mov (.c (.int .i64 0)), []⟩]) .ret))))
attribute [irreducible] c_polys_Ring_w_DivMod
theorem run_polys_Ring_w_DivMod {args : List Value} {w : World} {K : Value → World → Prop} (hn : args.length ≤ 30) (h : WP Try.prog c_polys_Ring_w_DivMod (endQ [.t 6, .t 7, .t 8] K) (initT args) w) : CallV Try.prog 55 args w K :=
  call_of follows Try.func55 (by kernel_rfl) (by kernel_rfl) hn h
def c_polys_Ring_b_DivMod : C := .seq (.ops [⟨0, (some 6), none, .mov (.c (.slice none 0 0)), []⟩, ⟨1, (some 7), none, .mov (.c (.slice none 0 0)), []⟩, ⟨2, (some 8), none, .mov (.c (.int .i64 0)), []⟩]) (.seq (.seq (.ops [⟨0, (some 10), none, .mov (.t 0), []⟩, ⟨1, (some 11), none, .mov (.t 1), []⟩, ⟨2, (some 12), none, .mov (.t 2), []⟩, ⟨3, (some 13), none, .bsl 57 2 [.slice none 0 0] [(0, (1, .t 11)), (1, (1, .t 12))], []⟩, ⟨4, (some 14), none, .call (.c (.func (.func 80) #[] #[])) [.t 10, .t 13], []⟩, ⟨5, (some 9), none, .mov (.t 14), []⟩]) (.seq (.ops [⟨0, (some 15), none, .mov (.t 9), []⟩, ⟨1, (some 16), none, .bin .neq (.t 15) (.c (.int .i64 0)), []⟩]) (.ite (.t 16) (.seq (.ops [⟨0, (some 17), none, .mov (.t 9), []⟩, ⟨1, (some 6), none, .mov (.c (.slice none 0 0)), []⟩, ⟨2, (some 7), none, .mov (.c (.slice none 0 0)), []⟩, ⟨3, (some 8), none, .mov (.t 17), []⟩]) .ret) .skip))) (.seq (.seq (.ops [⟨0, (some 18), none, .mov (.t 2), []⟩, ⟨1, (some 19), none, .call (.c (.func (.func 93) #[] #[])) [.t 18], []⟩, ⟨2, (some 20), none, .bin .lss (.t 19) (.c (.int .i64 0)), []⟩]) (.ite (.t 20) (.seq (.ops [⟨0, (some 6), none, .mov (.c (.slice none 0 0)), []⟩, ⟨1, (some 7), none, .mov (.c (.slice none 0 0)), []⟩, ⟨2, (some 8), none, .mov (.c (.int .i64 40)), []⟩]) .ret) .skip)) (.seq (.ops [⟨0, (some 22), none, .mov (.t 0), []⟩, ⟨1, (some 23), none, .mov (.t 1), []⟩, ⟨2, (some 24), none, .mov (.t 2), []⟩, ⟨3, (some 25), none, .call (.c (.func (.func 94) #[] #[])) [.t 22, .t 23, .t 24], []⟩, ⟨4, (some 21), none, .mov (.t 25), []⟩, ⟨5, (some 26), none, .ext (.t 21) 0, []⟩, ⟨6, (some 27), none, .ext (.t 21) 1, []⟩, ⟨7, (some 6), none, .mov (.t 26), []⟩, ⟨8, (some 7), none, .mov (.t 27), []⟩]) (.seq (.ops [⟨0, (some 28), none, .mov (.t 6), []⟩, ⟨1, (some 29), none, .mov (.t 7), []⟩, ⟨2, (some 6), none, .mov (.t 28), []⟩, ⟨3, (some 7), none, .mov (.t 29), []⟩, ⟨4, (some 8), none, .mov (.c (.int .i64 0)), []⟩]) .ret))))
attribute [irreducible] c_polys_Ring_b_DivMod
theorem run_polys_Ring_b_DivMod {args : List Value} {w : World} {K : Value → World → Prop} (hn : args.length ≤ 30) (h : WP Try.prog c_polys_Ring_b_DivMod (endQ [.t 6, .t 7, .t 8] K) (initT args) w) : CallV Try.prog 56 args w K :=
  call_of follows Try.func56 (by kernel_rfl) (by kernel_rfl) hn h
def c_polys_Ring_w_Partial : C := .seq (.ops [⟨0, (some 8), none, .mov (.c (.slice none 0 0)), []⟩, ⟨1, (some 9), none, .mov (.c (.slice none 0 0)), []⟩, ⟨2, (some 10), none, .mov (.c (.slice none 0 0)), []⟩, ⟨3, (some 11), none, .mov (.c (.int .i64 0)), []⟩]) (.seq (.seq (.ops [⟨0, (some 19), none, .mov (.t 0), []⟩, ⟨1, (some 20), none, .mov (.t 1), []⟩, ⟨2, (some 21), none, .mov (.t 2), []⟩, ⟨3, (some 22), none, .bsl 27 2 [.slice none 0 0] [(0, (1, .t 20)), (1, (1, .t 21))], []⟩, ⟨4, (some 23), none, .call (.c (.func (.func 78) #[] #[])) [.t 19, .t 22], []⟩, ⟨5, (some 12), none, .mov (.t 23), []⟩]) (.seq (.ops [⟨0, (some 24), none, .mov (.t 12), []⟩, ⟨1, (some 25), none, .bin .neq (.t 24) (.c (.int .i64 0)), []⟩]) (.ite (.t 25) (.seq (.ops [⟨0, (some 26), none, .mov (.t 12), []⟩, ⟨1, (some 8), none, .mov (.c (.slice none 0 0)), []⟩, ⟨2, (some 9), none, .mov (.c (.slice none 0 0)), []⟩, ⟨3, (some 10), none, .mov (.c (.slice none 0 0)), []⟩, ⟨4, (some 11), none, .mov (.t 26), []⟩]) .ret) .skip))) (.seq (.seq (.ops [⟨0, (some 27), none, .mov (.t 3), []⟩, ⟨1, (some 28), none, .bin .lss (.t 27) (.c (.int .i64 0)), []⟩]) (.ite (.t 28) (.seq (.ops [⟨0, (some 8), none, .mov (.c (.slice none 0 0)), []⟩, ⟨1, (some 9), none, .mov (.c (.slice none 0 0)), []⟩, ⟨2, (some 10), none, .mov (.c (.slice none 0 0)), []⟩, ⟨3, (some 11), none, .mov (.c (.int .i64 7)), []⟩]) .ret) .skip)) (.seq (.ops [⟨0, (some 29), none, .mov (.t 1), []⟩, ⟨1, (some 30), none, .call (.c (.func (.func 84) #[] #[])) [.t 29], []⟩, ⟨2, (some 31), none, .mov (.t 2), []⟩, ⟨3, (some 32), none, .call (.c (.func (.func 84) #[] #[])) [.t 31], []⟩, ⟨4, (some 13), none, .mov (.t 30), []⟩, ⟨5, (some 14), none, .mov (.t 32), []⟩]) (.seq (.ops [⟨0, (some 33), none, .bsl 28 1 [.int .u16 0] [(0, (1, .c (.int .u16 1)))], []⟩, ⟨1, (some 9), none, .mov (.t 33), []⟩, ⟨2, (some 10), none, .mov (.c (.slice none 0 0)), []⟩]) (.seq (.ops [⟨0, (some 34), none, .bsl 28 1 [.int .u16 0] [(0, (1, .c (.int .u16 1)))], []⟩, ⟨1, (some 15), none, .mov (.c (.slice none 0 0)), []⟩, ⟨2, (some 16), none, .mov (.t 34), []⟩]) (.seq (.block 0 (.loop (.seq (.seq (.ops [⟨0, (some 35), none, .mov (.t 13), []⟩, ⟨1, (some 36), none, .len (.t 35), []⟩, ⟨2, (some 37), none, .bin .sub (.t 36) (.c (.int .i64 1)), []⟩, ⟨3, (some 38), none, .mov (.t 3), []⟩, ⟨4, (some 39), none, .bin .geq (.t 37) (.t 38), []⟩]) (.ite (.t 39) .skip (.exit 0))) (.block 1 (.seq (.seq (.ops [⟨0, (some 40), none, .mov (.t 14), []⟩, ⟨1, (some 41), none, .len (.t 40), []⟩, ⟨2, (some 42), none, .bin .eql (.t 41) (.c (.int .i64 0)), []⟩]) (.ite (.t 42) (.seq (.ops [⟨0, (some 43), none, .mov (.t 15), []⟩, ⟨1, (some 44), none, .call (.c (.func (.func 84) #[] #[])) [.t 43], []⟩, ⟨2, (some 45), none, .mov (.t 16), []⟩, ⟨3, (some 46), none, .call (.c (.func (.func 84) #[] #[])) [.t 45], []⟩, ⟨4, (some 8), none, .mov (.c (.slice none 0 0)), []⟩, ⟨5, (some 9), none, .mov (.t 44), []⟩, ⟨6, (some 10), none, .mov (.t 46), []⟩, ⟨7, (some 11), none, .mov (.c (.int .i64 0)), []⟩]) .ret) .skip)) (.seq (.ops [⟨0, (some 48), none, .mov (.t 0), []⟩, ⟨1, (some 49), none, .mov (.t 13), []⟩, ⟨2, (some 50), none, .mov (.t 14), []⟩, ⟨3, (some 51), none, .call (.c (.func (.func 92) #[] #[])) [.t 48, .t 49, .t 50], []⟩, ⟨4, (some 47), none, .mov (.t 51), []⟩, ⟨5, (some 52), none, .ext (.t 47) 0, []⟩, ⟨6, (some 53), none, .ext (.t 47) 1, []⟩, ⟨7, (some 17), none, .mov (.t 52), []⟩, ⟨8, (some 18), none, .mov (.t 53), []⟩]) (.seq (.ops [⟨0, (some 54), none, .mov (.t 14), []⟩, ⟨1, (some 55), none, .mov (.t 18), []⟩, ⟨2, (some 13), none, .mov (.t 54), []⟩, ⟨3, (some 14), none, .mov (.t 55), []⟩]) (.seq (.ops [⟨0, (some 56), none, .mov (.t 15), []⟩, ⟨1, (some 57), none, .mov (.t 9), []⟩, ⟨2, (some 58), none, .mov (.t 0), []⟩, ⟨3, (some 59), none, .mov (.t 17), []⟩, ⟨4, (some 60), none, .mov (.t 15), []⟩, ⟨5, (some 61), none, .call (.c (.func (.func 79) #[] #[])) [.t 58, .t 59, .t 60], []⟩, ⟨6, (some 62), none, .call (.c (.func (.func 89) #[] #[])) [.t 57, .t 61], []⟩, ⟨7, (some 9), none, .mov (.t 56), []⟩, ⟨8, (some 15), none, .mov (.t 62), []⟩]) (.ops [⟨0, (some 63), none, .mov (.t 16), []⟩, ⟨1, (some 64), none, .mov (.t 10), []⟩, ⟨2, (some 65), none, .mov (.t 0), []⟩, ⟨3, (some 66), none, .mov (.t 17), []⟩, ⟨4, (some 67), none, .mov (.t 16), []⟩, ⟨5, (some 68), none, .call (.c (.func (.func 79) #[] #[])) [.t 65, .t 66, .t 67], []⟩, ⟨6, (some 69), none, .call (.c (.func (.func 89) #[] #[])) [.t 64, .t 68], []⟩, ⟨7, (some 10), none, .mov (.t 63), []⟩, ⟨8, (some 16), none, .mov (.t 69), []⟩]))))))))) (.seq (.ops [⟨0, (some 70), none, .mov (.t 13), []⟩, ⟨1, (some 71), none, .mov (.t 9), []⟩, ⟨2, (some 72), none, .call (.c (.func (.func 84) #[] #[])) [.t 71], []⟩, ⟨3, (some 73), none, .mov (.t 10), []⟩, ⟨4, (some 74), none, .call (.c (.func (.func 84) #[] #[])) [.t 73], []⟩, ⟨5, (some 8), none, .mov (.t 70), []⟩, ⟨6, (some 9), none, .mov (.t 72), []⟩, ⟨7, (some 10), none, .mov (.t 74), []⟩, ⟨8, (some 11), none, .mov (.c (.int .i64 0)), []⟩]) .ret)))))))
attribute [irreducible] c_polys_Ring_w_Partial
theorem run_polys_Ring_w_Partial {args : List Value} {w : World} {K : Value → World → Prop} (hn : args.length ≤ 75) (h : WP Try.prog c_polys_Ring_w_Partial (endQ [.t 8, .t 9, .t 10, .t 11] K) (initT args) w) : CallV Try.prog 57 args w K :=
  call_of follows Try.func57 (by kernel_rfl) (by kernel_rfl) hn h
def c_polys_Ring_b_Partial : C := .seq (.ops [⟨0, (some 8), none, .mov (.c (.slice none 0 0)), []⟩, ⟨1, (some 9), none, .mov (.c (.slice none 0 0)), []⟩, ⟨2, (some 10), none, .mov (.c (.slice none 0 0)), []⟩, ⟨3, (some 11), none, .mov (.c (.int .i64 0)), []⟩]) (.seq (.seq (.ops [⟨0, (some 19), none, .mov (.t 0), []⟩, ⟨1, (some 20), none, .mov (.t 1), []⟩, ⟨2, (some 21), none, .mov (.t 2), []⟩, ⟨3, (some 22), none, .bsl 57 2 [.slice none 0 0] [(0, (1, .t 20)), (1, (1, .t 21))], []⟩, ⟨4, (some 23), none, .call (.c (.func (.func 80) #[] #[])) [.t 19, .t 22], []⟩, ⟨5, (some 12), none, .mov (.t 23), []⟩]) (.seq (.ops [⟨0, (some 24), none, .mov (.t 12), []⟩, ⟨1, (some 25), none, .bin .neq (.t 24) (.c (.int .i64 0)), []⟩]) (.ite (.t 25) (.seq (.ops [⟨0, (some 26), none, .mov (.t 12), []⟩, ⟨1, (some 8), none, .mov (.c (.slice none 0 0)), []⟩, ⟨2, (some 9), none, .mov (.c (.slice none 0 0)), []⟩, ⟨3, (some 10), none, .mov (.c (.slice none 0 0)), []⟩, ⟨4, (some 11), none, .mov (.t 26), []⟩]) .ret) .skip))) (.seq (.seq (.ops [⟨0, (some 27), none, .mov (.t 3), []⟩, ⟨1, (some 28), none, .bin .lss (.t 27) (.c (.int .i64 0)), []⟩]) (.ite (.t 28) (.seq (.ops [⟨0, (some 8), none, .mov (.c (.slice none 0 0)), []⟩, ⟨1, (some 9), none, .mov (.c (.slice none 0 0)), []⟩, ⟨2, (some 10), none, .mov (.c (.slice none 0 0)), []⟩, ⟨3, (some 11), none, .mov (.c (.int .i64 7)), []⟩]) .ret) .skip)) (.seq (.ops [⟨0, (some 29), none, .mov (.t 1), []⟩, ⟨1, (some 30), none, .call (.c (.func (.func 85) #[] #[])) [.t 29], []⟩, ⟨2, (some 31), none, .mov (.t 2), []⟩, ⟨3, (some 32), none, .call (.c (.func (.func 85) #[] #[])) [.t 31], []⟩, ⟨4, (some 13), none, .mov (.t 30), []⟩, ⟨5, (some 14), none, .mov (.t 32), []⟩]) (.seq (.ops [⟨0, (some 33), none, .bsl 5 1 [.int .u8 0] [(0, (1, .c (.int .u8 1)))], []⟩, ⟨1, (some 9), none, .mov (.t 33), []⟩, ⟨2, (some 10), none, .mov (.c (.slice none 0 0)), []⟩]) (.seq (.ops [⟨0, (some 34), none, .bsl 5 1 [.int .u8 0] [(0, (1, .c (.int .u8 1)))], []⟩, ⟨1, (some 15), none, .mov (.c (.slice none 0 0)), []⟩, ⟨2, (some 16), none, .mov (.t 34), []⟩]) (.seq (.block 0 (.loop (.seq (.seq (.ops [⟨0, (some 35), none, .mov (.t 13), []⟩, ⟨1, (some 36), none, .len (.t 35), []⟩, ⟨2, (some 37), none, .bin .sub (.t 36) (.c (.int .i64 1)), []⟩, ⟨3, (some 38), none, .mov (.t 3), []⟩, ⟨4, (some 39), none, .bin .geq (.t 37) (.t 38), []⟩]) (.ite (.t 39) .skip (.exit 0))) (.block 1 (.seq (.seq (.ops [⟨0, (some 40), none, .mov (.t 14), []⟩, ⟨1, (some 41), none, .len (.t 40), []⟩, ⟨2, (some 42), none, .bin .eql (.t 41) (.c (.int .i64 0)), []⟩]) (.ite (.t 42) (.seq (.ops [⟨0, (some 43), none, .mov (.t 15), []⟩, ⟨1, (some 44), none, .call (.c (.func (.func 85) #[] #[])) [.t 43], []⟩, ⟨2, (some 45), none, .mov (.t 16), []⟩, ⟨3, (some 46), none, .call (.c (.func (.func 85) #[] #[])) [.t 45], []⟩, ⟨4, (some 8), none, .mov (.c (.slice none 0 0)), []⟩, ⟨5, (some 9), none, .mov (.t 44), []⟩, ⟨6, (some 10), none, .mov (.t 46), []⟩, ⟨7, (some 11), none, .mov (.c (.int .i64 0)), []⟩]) .ret) .skip)) (.seq (.ops [⟨0, (some 48), none, .mov (.t 0), []⟩, ⟨1, (some 49), none, .mov (.t 13), []⟩, ⟨2, (some 50), none, .mov (.t 14), []⟩, ⟨3, (some 51), none, .call (.c (.func (.func 94) #[] #[])) [.t 48, .t 49, .t 50], []⟩, ⟨4, (some 47), none, .mov (.t 51), []⟩, ⟨5, (some 52), none, .ext (.t 47) 0, []⟩, ⟨6, (some 53), none, .ext (.t 47) 1, []⟩, ⟨7, (some 17), none, .mov (.t 52), []⟩, ⟨8, (some 18), none, .mov (.t 53), []⟩]) (.seq (.ops [⟨0, (some 54), none, .mov (.t 14), []⟩, ⟨1, (some 55), none, .mov (.t 18), []⟩, ⟨2, (some 13), none, .mov (.t 54), []⟩, ⟨3, (some 14), none, .mov (.t 55), []⟩]) (.seq (.ops [⟨0, (some 56), none, .mov (.t 15), []⟩, ⟨1, (some 57), none, .mov (.t 9), []⟩, ⟨2, (some 58), none, .mov (.t 0), []⟩, ⟨3, (some 59), none, .mov (.t 17), []⟩, ⟨4, (some 60), none, .mov (.t 15), []⟩, ⟨5, (some 61), none, .call (.c (.func (.func 81) #[] #[])) [.t 58, .t 59, .t 60], []⟩, ⟨6, (some 62), none, .call (.c (.func (.func 90) #[] #[])) [.t 57, .t 61], []⟩, ⟨7, (some 9), none, .mov (.t 56), []⟩, ⟨8, (some 15), none, .mov (.t 62), []⟩]) (.ops [⟨0, (some 63), none, .mov (.t 16), []⟩, ⟨1, (some 64), none, .mov (.t 10), []⟩, ⟨2, (some 65), none, .mov (.t 0), []⟩, ⟨3, (some 66), none, .mov (.t 17), []⟩, ⟨4, (some 67), none, .mov (.t 16), []⟩, ⟨5, (some 68), none, .call (.c (.func (.func 81) #[] #[])) [.t 65, .t 66, .t 67], []⟩, ⟨6, (some 69), none, .call (.c (.func (.func 90) #[] #[])) [.t 64, .t 68], []⟩, ⟨7, (some 10), none, .mov (.t 63), []⟩, ⟨8, (some 16), none, .mov (.t 69), []⟩]))))))))) (.seq (.ops [⟨0, (some 70), none, .mov (.t 13), []⟩, ⟨1, (some 71), none, .mov (.t 9), []⟩, ⟨2, (some 72), none, .call (.c (.func (.func 85) #[] #[])) [.t 71], []⟩, ⟨3, (some 73), none, .mov (.t 10), []⟩, ⟨4, (some 74), none, .call (.c (.func (.func 85) #[] #[])) [.t 73], []⟩, ⟨5, (some 8), none, .mov (.t 70), []⟩, ⟨6, (some 9), none, .mov (.t 72), []⟩, ⟨7, (some 10), none, .mov (.t 74), []⟩, ⟨8, (some 11), none, .mov (.c (.int .i64 0)), []⟩]) .ret)))))))
attribute [irreducible] c_polys_Ring_b_Partial
theorem run_polys_Ring_b_Partial {args : List Value} {w : World} {K : Value → World → Prop} (hn : args.length ≤ 75) (h : WP Try.prog c_polys_Ring_b_Partial (endQ [.t 8, .t 9, .t 10, .t 11] K) (initT args) w) : CallV Try.prog 58 args w K :=
  call_of follows Try.func58 (by kernel_rfl) (by kernel_rfl) hn h
def c_polys_Ring_w_Gcd : C := .seq (.ops [⟨0, (some 6), none, .mov (.c (.slice none 0 0)), []⟩, ⟨1, (some 7), none, .mov (.c (.int .i64 0)), []⟩]) (.seq (.seq (.ops [⟨0, (some 16), none, .mov (.t 0), []⟩, ⟨1, (some 17), none, .mov (.t 1), []⟩, ⟨2, (some 18), none, .mov (.t 2), []⟩, ⟨3, (some 19), none, .bsl 27 2 [.slice none 0 0] [(0, (1, .t 17)), (1, (1, .t 18))], []⟩, ⟨4, (some 20), none, .call (.c (.func (.func 78) #[] #[])) [.t 16, .t 19], []⟩, ⟨5, (some 8), none, .mov (.t 20), []⟩]) (.seq (.ops [⟨0, (some 21), none, .mov (.t 8), []⟩, ⟨1, (some 22), none, .bin .neq (.t 21) (.c (.int .i64 0)), []⟩]) (.ite (.t 22) (.seq (.ops [⟨0, (some 23), none, .mov (.t 8), []⟩, ⟨1, (some 6), none, .mov (.c (.slice none 0 0)), []⟩, ⟨2, (some 7), none, .mov (.t 23), []⟩]) .ret) .skip))) (.seq (.ops [⟨0, (some 24), none, .mov (.t 1), []⟩, ⟨1, (some 25), none, .call (.c (.func (.func 84) #[] #[])) [.t 24], []⟩, ⟨2, (some 26), none, .mov (.t 2), []⟩, ⟨3, (some 27), none, .call (.c (.func (.func 84) #[] #[])) [.t 26], []⟩, ⟨4, (some 9), none, .mov (.t 25), []⟩, ⟨5, (some 10), none, .mov (.t 27), []⟩]) (.seq (.block 0 (.loop (.seq (.seq (.ops [⟨0, (some 28), none, .mov (.t 10), []⟩, ⟨1, (some 29), none, .len (.t 28), []⟩, ⟨2, (some 30), none, .bin .gtr (.t 29) (.c (.int .i64 0)), []⟩]) (.ite (.t 30) .skip (.exit 0))) (.block 1 (.seq (.ops [⟨0, (some 32), none, .mov (.t 0), []⟩, ⟨1, (some 33), none, .mov (.t 9), []⟩, ⟨2, (some 34), none, .mov (.t 10), []⟩, ⟨3, (some 35), none, .call (.c (.func (.func 92) #[] #[])) [.t 32, .t 33, .t 34], []⟩, ⟨4, (some 31), none, .mov (.t 35), []⟩, ⟨5, (some 36), none, .ext (.t 31) 0, []⟩, ⟨6, (some 37), none, .ext (.t 31) 1, []⟩, ⟨7, (some 11), none, .mov (.t 36), []⟩, ⟨8, (some 12), none, .mov (.t 37), []⟩]) (.ops [⟨0, (some 38), none, .mov (.t 10), []⟩, ⟨1, (some 39), none, .mov (.t 12), []⟩, ⟨2, (some 9), none, .mov (.t 38), []⟩, ⟨3, (some 10), none, .mov (.t 39), []⟩])))))) (.seq (.seq (.ops [⟨0, (some 40), none, .mov (.t 9), []⟩, ⟨1, (some 41), none, .len (.t 40), []⟩, ⟨2, (some 42), none, .bin .gtr (.t 41) (.c (.int .i64 0)), []⟩]) (.ite (.t 42) (.seq (.dops [⟨0, (some 44), none, .mov (.t 0), []⟩, ⟨1, (some 45), none, .nil (.t 44), []⟩, ⟨2, (some 46), none, .fad 1 (.t 45), []⟩, ⟨3, (some 47), none, .ld (.t 46), []⟩, ⟨4, (some 48), none, .mov (.t 9), []⟩, ⟨5, (some 49), none, .mov (.t 9), []⟩, ⟨6, (some 50), none, .len (.t 49), []⟩, ⟨7, (some 51), none, .bin .sub (.t 50) (.c (.int .i64 1)), []⟩, ⟨8, (some 52), none, .ixs 1 (.t 48) (.t 51), []⟩, ⟨9, (some 53), none, .ld (.t 52), []⟩, ⟨10, (some 54), none, .call (.t 47) [.t 53], []⟩, ⟨11, (some 43), none, .mov (.t 54), []⟩, ⟨12, (some 55), none, .ext (.t 43) 0, []⟩, ⟨13, (some 56), none, .ext (.t 43) 1, []⟩, ⟨14, (some 13), none, .mov (.t 55), []⟩, ⟨15, (some 14), none, .mov (.t 56), []⟩]) (.seq (.ops [⟨0, (some 57), none, .mov (.t 9), []⟩, ⟨1, (some 58), none, .len (.t 57), []⟩, ⟨2, (some 59), none, .mov (.c (.int .i64 0)), []⟩]) (.block 2 (.loop (.seq (.ops [⟨0, (some 60), none, .bin .lss (.t 59) (.t 58), []⟩]) (.seq (.ite (.t 60) .skip (.exit 2)) (.seq (.block 3 (.seq (.ops [⟨0, (some 61), none, .mov (.t 59), []⟩, ⟨1, (some 15), none, .mov (.t 61), []⟩]) (.dops [⟨0, (some 62), none, .mov (.t 9), []⟩, ⟨1, (some 63), none, .mov (.t 15), []⟩, ⟨2, (some 64), none, .mov (.t 0), []⟩, ⟨3, (some 65), none, .nil (.t 64), []⟩, ⟨4, (some 66), none, .fad 0 (.t 65), []⟩, ⟨5, (some 67), none, .ld (.t 66), []⟩, ⟨6, (some 68), none, .mov (.t 9), []⟩, ⟨7, (some 69), none, .mov (.t 15), []⟩, ⟨8, (some 70), none, .ixs 1 (.t 68) (.t 69), []⟩, ⟨9, (some 71), none, .ld (.t 70), []⟩, ⟨10, (some 72), none, .mov (.t 13), []⟩, ⟨11, (some 73), none, .call (.t 67) [.t 71, .t 72], []⟩, ⟨12, (some 74), none, .ixs 1 (.t 62) (.t 63), []⟩, ⟨13, none, none, .st (.t 74) (.t 73), []⟩]))) (.ops [⟨0, (some 75), none, .bin .add (.t 59) (.c (.int .i64 1)), []⟩, ⟨1, (some 59), none, .mov (.t 75), []⟩])))))))) .skip)) (.seq (.ops [⟨0, (some 76), none, .mov (.t 9), []⟩, ⟨1, (some 6), none, .mov (.t 76), []⟩, ⟨2, (some 7), none, .mov (.c (.int .i64 0)), []⟩]) .ret)))))
attribute [irreducible] c_polys_Ring_w_Gcd
theorem run_polys_Ring_w_Gcd {args : List Value} {w : World} {K : Value → World → Prop} (hn : args.length ≤ 77) (h : WP Try.prog c_polys_Ring_w_Gcd (endQ [.t 6, .t 7] K) (initT args) w) : CallV Try.prog 59 args w K :=
  call_of follows Try.func59 (by kernel_rfl) (by kernel_rfl) hn h
def c_polys_Ring_b_Gcd : C := .seq (.ops [⟨0, (some 6), none, .mov (.c (.slice none 0 0)), []⟩, ⟨1, (some 7), none, .mov (.c (.int .i64 0)), []⟩]) (.seq (.seq (.ops [⟨0, (some 16), none, .mov (.t 0), []⟩, ⟨1, (some 17), none, .mov (.t 1), []⟩, ⟨2, (some 18), none, .mov (.t 2), []⟩, ⟨3, (some 19), none, .bsl 57 2 [.slice none 0 0] [(0, (1, .t 17)), (1, (1, .t 18))], []⟩, ⟨4, (some 20), none, .call (.c (.func (.func 80) #[] #[])) [.t 16, .t 19], []⟩, ⟨5, (some 8), none, .mov (.t 20), []⟩]) (.seq (.ops [⟨0, (some 21), none, .mov (.t 8), []⟩, ⟨1, (some 22), none, .bin .neq (.t 21) (.c (.int .i64 0)), []⟩]) (.ite (.t 22) (.seq (.ops [⟨0, (some 23), none, .mov (.t 8), []⟩, ⟨1, (some 6), none, .mov (.c (.slice none 0 0)), []⟩, ⟨2, (some 7), none, .mov (.t 23), []⟩]) .ret) .skip))) (.seq (.ops [⟨0, (some 24), none, .mov (.t 1), []⟩, ⟨1, (some 25), none, .call (.c (.func (.func 85) #[] #[])) [.t 24], []⟩, ⟨2, (some 26), none, .mov (.t 2), []⟩, ⟨3, (some 27), none, .call (.c (.func (.func 85) #[] #[])) [.t 26], []⟩, ⟨4, (some 9), none, .mov (.t 25), []⟩, ⟨5, (some 10), none, .mov (.t 27), []⟩]) (.seq (.block 0 (.loop (.seq (.seq (.ops [⟨0, (some 28), none, .mov (.t 10), []⟩, ⟨1, (some 29), none, .len (.t 28), []⟩, ⟨2, (some 30), none, .bin .gtr (.t 29) (.c (.int .i64 0)), []⟩]) (.ite (.t 30) .skip (.exit 0))) (.block 1 (.seq (.ops [⟨0, (some 32), none, .mov (.t 0), []⟩, ⟨1, (some 33), none, .mov (.t 9), []⟩, ⟨2, (some 34), none, .mov (.t 10), []⟩, ⟨3, (some 35), none, .call (.c (.func (.func 94) #[] #[])) [.t 32, .t 33, .t 34], []⟩, ⟨4, (some 31), none, .mov (.t 35), []⟩, ⟨5, (some 36), none, .ext (.t 31) 0, []⟩, ⟨6, (some 37), none, .ext (.t 31) 1, []⟩, ⟨7, (some 11), none, .mov (.t 36), []⟩, ⟨8, (some 12), none, .mov (.t 37), []⟩]) (.ops [⟨0, (some 38), none, .mov (.t 10), []⟩, ⟨1, (some 39), none, .mov (.t 12), []⟩, ⟨2, (some 9), none, .mov (.t 38), []⟩, ⟨3, (some 10), none, .mov (.t 39), []⟩])))))) (.seq (.seq (.ops [⟨0, (some 40), none, .mov (.t 9), []⟩, ⟨1, (some 41), none, .len (.t 40), []⟩, ⟨2, (some 42), none, .bin .gtr (.t 41) (.c (.int .i64 0)), []⟩]) (.ite (.t 42) (.seq (.dops [⟨0, (some 44), none, .mov (.t 0), []⟩, ⟨1, (some 45), none, .nil (.t 44), []⟩, ⟨2, (some 46), none, .fad 1 (.t 45), []⟩, ⟨3, (some 47), none, .ld (.t 46), []⟩, ⟨4, (some 48), none, .mov (.t 9), []⟩, ⟨5, (some 49), none, .mov (.t 9), []⟩, ⟨6, (some 50), none, .len (.t 49), []⟩, ⟨7, (some 51), none, .bin .sub (.t 50) (.c (.int .i64 1)), []⟩, ⟨8, (some 52), none, .ixs 1 (.t 48) (.t 51), []⟩, ⟨9, (some 53), none, .ld (.t 52), []⟩, ⟨10, (some 54), none, .call (.t 47) [.t 53], []⟩, ⟨11, (some 43), none, .mov (.t 54), []⟩, ⟨12, (some 55), none, .ext (.t 43) 0, []⟩, ⟨13, (some 56), none, .ext (.t 43) 1, []⟩, ⟨14, (some 13), none, .mov (.t 55), []⟩, ⟨15, (some 14), none, .mov (.t 56), []⟩]) (.seq (.ops [⟨0, (some 57), none, .mov (.t 9), []⟩, ⟨1, (some 58), none, .len (.t 57), []⟩, ⟨2, (some 59), none, .mov (.c (.int .i64 0)), []⟩]) (.block 2 (.loop (.seq (.ops [⟨0, (some 60), none, .bin .lss (.t 59) (.t 58), []⟩]) (.seq (.ite (.t 60) .skip (.exit 2)) (.seq (.block 3 (.seq (.ops [⟨0, (some 61), none, .mov (.t 59), []⟩, ⟨1, (some 15), none, .mov (.t 61), []⟩]) (.dops [⟨0, (some 62), none, .mov (.t 9), []⟩, ⟨1, (some 63), none, .mov (.t 15), []⟩, ⟨2, (some 64), none, .mov (.t 0), []⟩, ⟨3, (some 65), none, .nil (.t 64), []⟩, ⟨4, (some 66), none, .fad 0 (.t 65), []⟩, ⟨5, (some 67), none, .ld (.t 66), []⟩, ⟨6, (some 68), none, .mov (.t 9), []⟩, ⟨7, (some 69), none, .mov (.t 15), []⟩, ⟨8, (some 70), none, .ixs 1 (.t 68) (.t 69), []⟩, ⟨9, (some 71), none, .ld (.t 70), []⟩, ⟨10, (some 72), none, .mov (.t 13), []⟩, ⟨11, (some 73), none, .call (.t 67) [.t 71, .t 72], []⟩, ⟨12, (some 74), none, .ixs 1 (.t 62) (.t 63), []⟩, ⟨13, none, none, .st (.t 74) (.t 73), []⟩]))) (.ops [⟨0, (some 75), none, .bin .add (.t 59) (.c (.int .i64 1)), []⟩, ⟨1, (some 59), none, .mov (.t 75), []⟩])))))))) .skip)) (.seq (.ops [⟨0, (some 76), none, .mov (.t 9), []⟩, ⟨1, (some 6), none, .mov (.t 76), []⟩, ⟨2, (some 7), none, .mov (.c (.int .i64 0)), []⟩]) .ret)))))
attribute [irreducible] c_polys_Ring_b_Gcd
theorem run_polys_Ring_b_Gcd {args : List Value} {w : World} {K : Value → World → Prop} (hn : args.length ≤ 77) (h : WP Try.prog c_polys_Ring_b_Gcd (endQ [.t 6, .t 7] K) (initT args) w) : CallV Try.prog 60 args w K :=
  call_of follows Try.func60 (by kernel_rfl) (by kernel_rfl) hn h
end Go.Proofs.Ytcdagkcchfibjaa.Fw
namespace Go.Proofs.Ytcdagkcchfibjaa.Fw
open Go Go.Fw
theorem nil_refuses_w (w : World) (s : Value) : CallV Try.prog 78 [.pointer none, s] w fun v w' => v = .int .i64 1 ∧ w' = w := by
  refine run_polys_Ring_w_refuses (by simp) ?_
  simp only [c_polys_Ring_w_refuses, WS, List.getElem_cons_zero, List.getElem_cons_succ, Option.isNone_some, Option.isNone_none, List.getD_cons_zero, List.getD_cons_succ, I.at, atL, atO, atP, evp, evs, retV, ↓reduceIte, Nat.reduceEqDiff, reduceCtorEq]
theorem nil_Mul_w (w : World) (s1 s2 : Value) (l1 : List (El 16)) (l2 : List (El 16)) (h1 : Sl w s1 l1) (h2 : Sl w s2 l2) : CallV Try.prog 37 [.pointer none, s1, s2] w fun v w' => RowKit.Below w.heap.size w w' ∧ v = .tuple #[.slice none 0 0, .int .i64 1] := by
  refine run_polys_Ring_w_Mul (by simp) ?_
  simp only [c_polys_Ring_w_Mul, WS, List.getElem_cons_zero, List.getElem_cons_succ, Option.isNone_some, Option.isNone_none, List.getD_cons_zero, List.getD_cons_succ, I.at, atL, atO, atP, evp, evs, retV, ↓reduceIte, Nat.reduceEqDiff, reduceCtorEq]
  refine X_bsl (zs := [hd s1, hd s2]) (fill2 h1 h2) rfl fun ls w1 ho hB => ?_
  simp (maxSteps := 1000000) (disch := omega) only [WS, List.getElem_cons_zero, List.getElem_cons_succ, Option.isNone_some, Option.isNone_none, List.getD_cons_zero, List.getD_cons_succ, I.at, atL, atO, atP, evp, evs, retV, ↓reduceIte, Nat.reduceEqDiff, reduceCtorEq, AS]
  refine X_call0 ((nil_refuses_w w1 ls).mono ?_)
  rintro _ w2 ⟨rfl, rfl⟩
  simp (maxSteps := 1000000) (disch := omega) only [WS, List.getElem_cons_zero, List.getElem_cons_succ, Option.isNone_some, Option.isNone_none, List.getD_cons_zero, List.getD_cons_succ, I.at, atL, atO, atP, evp, evs, retV, ↓reduceIte, Nat.reduceEqDiff, reduceCtorEq, AS, show decide ((1 : Int) = 0) = false from rfl]
  exact hB
theorem nil_DivMod_w (w : World) (s1 s2 : Value) (l1 : List (El 16)) (l2 : List (El 16)) (h1 : Sl w s1 l1) (h2 : Sl w s2 l2) : CallV Try.prog 55 [.pointer none, s1, s2] w fun v w' => RowKit.Below w.heap.size w w' ∧ v = .tuple #[.slice none 0 0, .slice none 0 0, .int .i64 1] := by
  refine run_polys_Ring_w_DivMod (by simp) ?_
  simp only [c_polys_Ring_w_DivMod, WS, List.getElem_cons_zero, List.getElem_cons_succ, Option.isNone_some, Option.isNone_none, List.getD_cons_zero, List.getD_cons_succ, I.at, atL, atO, atP, evp, evs, retV, ↓reduceIte, Nat.reduceEqDiff, reduceCtorEq]
  refine X_bsl (zs := [hd s1, hd s2]) (fill2 h1 h2) rfl fun ls w1 ho hB => ?_
  simp (maxSteps := 1000000) (disch := omega) only [WS, List.getElem_cons_zero, List.getElem_cons_succ, Option.isNone_some, Option.isNone_none, List.getD_cons_zero, List.getD_cons_succ, I.at, atL, atO, atP, evp, evs, retV, ↓reduceIte, Nat.reduceEqDiff, reduceCtorEq, AS]
  refine X_call0 ((nil_refuses_w w1 ls).mono ?_)
  rintro _ w2 ⟨rfl, rfl⟩
  simp (maxSteps := 1000000) (disch := omega) only [WS, List.getElem_cons_zero, List.getElem_cons_succ, Option.isNone_some, Option.isNone_none, List.getD_cons_zero, List.getD_cons_succ, I.at, atL, atO, atP, evp, evs, retV, ↓reduceIte, Nat.reduceEqDiff, reduceCtorEq, AS, show decide ((1 : Int) = 0) = false from rfl]
  exact hB
theorem nil_Gcd_w (w : World) (s1 s2 : Value) (l1 : List (El 16)) (l2 : List (El 16)) (h1 : Sl w s1 l1) (h2 : Sl w s2 l2) : CallV Try.prog 59 [.pointer none, s1, s2] w fun v w' => RowKit.Below w.heap.size w w' ∧ v = .tuple #[.slice none 0 0, .int .i64 1] := by
  refine run_polys_Ring_w_Gcd (by simp) ?_
  simp only [c_polys_Ring_w_Gcd, WS, List.getElem_cons_zero, List.getElem_cons_succ, Option.isNone_some, Option.isNone_none, List.getD_cons_zero, List.getD_cons_succ, I.at, atL, atO, atP, evp, evs, retV, ↓reduceIte, Nat.reduceEqDiff, reduceCtorEq]
  refine X_bsl (zs := [hd s1, hd s2]) (fill2 h1 h2) rfl fun ls w1 ho hB => ?_
  simp (maxSteps := 1000000) (disch := omega) only [WS, List.getElem_cons_zero, List.getElem_cons_succ, Option.isNone_some, Option.isNone_none, List.getD_cons_zero, List.getD_cons_succ, I.at, atL, atO, atP, evp, evs, retV, ↓reduceIte, Nat.reduceEqDiff, reduceCtorEq, AS]
  refine X_call0 ((nil_refuses_w w1 ls).mono ?_)
  rintro _ w2 ⟨rfl, rfl⟩
  simp (maxSteps := 1000000) (disch := omega) only [WS, List.getElem_cons_zero, List.getElem_cons_succ, Option.isNone_some, Option.isNone_none, List.getD_cons_zero, List.getD_cons_succ, I.at, atL, atO, atP, evp, evs, retV, ↓reduceIte, Nat.reduceEqDiff, reduceCtorEq, AS, show decide ((1 : Int) = 0) = false from rfl]
  exact hB
theorem nil_Vanishing_w (w : World) (s1 : Value) (l1 : List (El 16)) (h1 : Sl w s1 l1) : CallV Try.prog 42 [.pointer none, s1] w fun v w' => RowKit.Below w.heap.size w w' ∧ v = .tuple #[.slice none 0 0, .int .i64 1] := by
  refine run_polys_Ring_w_Vanishing (by simp) ?_
  simp only [c_polys_Ring_w_Vanishing, WS, List.getElem_cons_zero, List.getElem_cons_succ, Option.isNone_some, Option.isNone_none, List.getD_cons_zero, List.getD_cons_succ, I.at, atL, atO, atP, evp, evs, retV, ↓reduceIte, Nat.reduceEqDiff, reduceCtorEq]
  refine X_bsl (zs := [hd s1]) (fill1 h1) rfl fun ls w1 ho hB => ?_
  simp (maxSteps := 1000000) (disch := omega) only [WS, List.getElem_cons_zero, List.getElem_cons_succ, Option.isNone_some, Option.isNone_none, List.getD_cons_zero, List.getD_cons_succ, I.at, atL, atO, atP, evp, evs, retV, ↓reduceIte, Nat.reduceEqDiff, reduceCtorEq, AS]
  refine X_call0 ((nil_refuses_w w1 ls).mono ?_)
  rintro _ w2 ⟨rfl, rfl⟩
  simp (maxSteps := 1000000) (disch := omega) only [WS, List.getElem_cons_zero, List.getElem_cons_succ, Option.isNone_some, Option.isNone_none, List.getD_cons_zero, List.getD_cons_succ, I.at, atL, atO, atP, evp, evs, retV, ↓reduceIte, Nat.reduceEqDiff, reduceCtorEq, AS, show decide ((1 : Int) = 0) = false from rfl]
  exact hB
theorem nil_Interpolate_w (w : World) (s1 s2 : Value) (l1 : List (El 16)) (l2 : List (El 16)) (h1 : Sl w s1 l1) (h2 : Sl w s2 l2) : CallV Try.prog 47 [.pointer none, s1, s2] w fun v w' => RowKit.Below w.heap.size w w' ∧ v = .tuple #[.slice none 0 0, .int .i64 1] := by
  refine run_polys_Ring_w_Interpolate (by simp) ?_
  simp only [c_polys_Ring_w_Interpolate, WS, List.getElem_cons_zero, List.getElem_cons_succ, Option.isNone_some, Option.isNone_none, List.getD_cons_zero, List.getD_cons_succ, I.at, atL, atO, atP, evp, evs, retV, ↓reduceIte, Nat.reduceEqDiff, reduceCtorEq]
  refine X_bsl (zs := [hd s1, hd s2]) (fill2 h1 h2) rfl fun ls w1 ho hB => ?_
  simp (maxSteps := 1000000) (disch := omega) only [WS, List.getElem_cons_zero, List.getElem_cons_succ, Option.isNone_some, Option.isNone_none, List.getD_cons_zero, List.getD_cons_succ, I.at, atL, atO, atP, evp, evs, retV, ↓reduceIte, Nat.reduceEqDiff, reduceCtorEq, AS]
  refine X_call0 ((nil_refuses_w w1 ls).mono ?_)
  rintro _ w2 ⟨rfl, rfl⟩
  simp (maxSteps := 1000000) (disch := omega) only [WS, List.getElem_cons_zero, List.getElem_cons_succ, Option.isNone_some, Option.isNone_none, List.getD_cons_zero, List.getD_cons_succ, I.at, atL, atO, atP, evp, evs, retV, ↓reduceIte, Nat.reduceEqDiff, reduceCtorEq, AS, show decide ((1 : Int) = 0) = false from rfl]
  exact hB
theorem nil_Partial_w (w : World) (s1 s2 : Value) (l1 : List (El 16)) (l2 : List (El 16)) (d : Int) (h1 : Sl w s1 l1) (h2 : Sl w s2 l2) : CallV Try.prog 57 [.pointer none, s1, s2, .int .i64 d] w fun v w' => RowKit.Below w.heap.size w w' ∧ v = .tuple #[.slice none 0 0, .slice none 0 0, .slice none 0 0, .int .i64 1] := by
  refine run_polys_Ring_w_Partial (by simp) ?_
  simp only [c_polys_Ring_w_Partial, WS, List.getElem_cons_zero, List.getElem_cons_succ, Option.isNone_some, Option.isNone_none, List.getD_cons_zero, List.getD_cons_succ, I.at, atL, atO, atP, evp, evs, retV, ↓reduceIte, Nat.reduceEqDiff, reduceCtorEq]
  refine X_bsl (zs := [hd s1, hd s2]) (fill2 h1 h2) rfl fun ls w1 ho hB => ?_
  simp (maxSteps := 1000000) (disch := omega) only [WS, List.getElem_cons_zero, List.getElem_cons_succ, Option.isNone_some, Option.isNone_none, List.getD_cons_zero, List.getD_cons_succ, I.at, atL, atO, atP, evp, evs, retV, ↓reduceIte, Nat.reduceEqDiff, reduceCtorEq, AS]
  refine X_call0 ((nil_refuses_w w1 ls).mono ?_)
  rintro _ w2 ⟨rfl, rfl⟩
  simp (maxSteps := 1000000) (disch := omega) only [WS, List.getElem_cons_zero, List.getElem_cons_succ, Option.isNone_some, Option.isNone_none, List.getD_cons_zero, List.getD_cons_succ, I.at, atL, atO, atP, evp, evs, retV, ↓reduceIte, Nat.reduceEqDiff, reduceCtorEq, AS, show decide ((1 : Int) = 0) = false from rfl]
  exact hB
theorem nil_Degree_w (w : World) (s1 : Value) : CallV Try.prog 61 [.pointer none, s1] w fun v w' => v = .int .i64 0 ∧ w' = w := by
  refine run_polys_Ring_w_Degree (by simp) ?_
  simp only [c_polys_Ring_w_Degree, WS, List.getElem_cons_zero, List.getElem_cons_succ, Option.isNone_some, Option.isNone_none, List.getD_cons_zero, List.getD_cons_succ, I.at, atL, atO, atP, evp, evs, retV, ↓reduceIte, Nat.reduceEqDiff, reduceCtorEq]
theorem nil_Eval_w (w : World) (s1 s2 : Value) : CallV Try.prog 53 [.pointer none, s1, s2] w fun v w' => v = .int .u16 0 ∧ w' = w := by
  refine run_polys_Ring_w_Eval (by simp) ?_
  simp only [c_polys_Ring_w_Eval, WS, List.getElem_cons_zero, List.getElem_cons_succ, Option.isNone_some, Option.isNone_none, List.getD_cons_zero, List.getD_cons_succ, I.at, atL, atO, atP, evp, evs, retV, ↓reduceIte, Nat.reduceEqDiff, reduceCtorEq]
theorem nil_Trim_w (w : World) (s1 : Value) : CallV Try.prog 49 [.pointer none, s1] w fun v w' => v = .slice none 0 0 ∧ w' = w := by
  refine run_polys_Ring_w_Trim (by simp) ?_
  simp only [c_polys_Ring_w_Trim, WS, List.getElem_cons_zero, List.getElem_cons_succ, Option.isNone_some, Option.isNone_none, List.getD_cons_zero, List.getD_cons_succ, I.at, atL, atO, atP, evp, evs, retV, ↓reduceIte, Nat.reduceEqDiff, reduceCtorEq]
theorem nil_Add_w (w : World) (s1 s2 : Value) : CallV Try.prog 51 [.pointer none, s1, s2] w fun v w' => v = .slice none 0 0 ∧ w' = w := by
  refine run_polys_Ring_w_Add (by simp) ?_
  simp only [c_polys_Ring_w_Add, WS, List.getElem_cons_zero, List.getElem_cons_succ, Option.isNone_some, Option.isNone_none, List.getD_cons_zero, List.getD_cons_succ, I.at, atL, atO, atP, evp, evs, retV, ↓reduceIte, Nat.reduceEqDiff, reduceCtorEq]
theorem nil_Derivative_w (w : World) (s1 : Value) : CallV Try.prog 44 [.pointer none, s1] w fun v w' => v = .slice none 0 0 ∧ w' = w := by
  refine run_polys_Ring_w_Derivative (by simp) ?_
  simp only [c_polys_Ring_w_Derivative, WS, List.getElem_cons_zero, List.getElem_cons_succ, Option.isNone_some, Option.isNone_none, List.getD_cons_zero, List.getD_cons_succ, I.at, atL, atO, atP, evp, evs, retV, ↓reduceIte, Nat.reduceEqDiff, reduceCtorEq]
theorem nil_refuses_b (w : World) (s : Value) : CallV Try.prog 80 [.pointer none, s] w fun v w' => v = .int .i64 1 ∧ w' = w := by
  refine run_polys_Ring_b_refuses (by simp) ?_
  simp only [c_polys_Ring_b_refuses, WS, List.getElem_cons_zero, List.getElem_cons_succ, Option.isNone_some, Option.isNone_none, List.getD_cons_zero, List.getD_cons_succ, I.at, atL, atO, atP, evp, evs, retV, ↓reduceIte, Nat.reduceEqDiff, reduceCtorEq]
theorem nil_Mul_b (w : World) (s1 s2 : Value) (l1 : List (El 8)) (l2 : List (El 8)) (h1 : Sl w s1 l1) (h2 : Sl w s2 l2) : CallV Try.prog 39 [.pointer none, s1, s2] w fun v w' => RowKit.Below w.heap.size w w' ∧ v = .tuple #[.slice none 0 0, .int .i64 1] := by
  refine run_polys_Ring_b_Mul (by simp) ?_
  simp only [c_polys_Ring_b_Mul, WS, List.getElem_cons_zero, List.getElem_cons_succ, Option.isNone_some, Option.isNone_none, List.getD_cons_zero, List.getD_cons_succ, I.at, atL, atO, atP, evp, evs, retV, ↓reduceIte, Nat.reduceEqDiff, reduceCtorEq]
  refine X_bsl (zs := [hd s1, hd s2]) (fill2 h1 h2) rfl fun ls w1 ho hB => ?_
  simp (maxSteps := 1000000) (disch := omega) only [WS, List.getElem_cons_zero, List.getElem_cons_succ, Option.isNone_some, Option.isNone_none, List.getD_cons_zero, List.getD_cons_succ, I.at, atL, atO, atP, evp, evs, retV, ↓reduceIte, Nat.reduceEqDiff, reduceCtorEq, AS]
  refine X_call0 ((nil_refuses_b w1 ls).mono ?_)
  rintro _ w2 ⟨rfl, rfl⟩
  simp (maxSteps := 1000000) (disch := omega) only [WS, List.getElem_cons_zero, List.getElem_cons_succ, Option.isNone_some, Option.isNone_none, List.getD_cons_zero, List.getD_cons_succ, I.at, atL, atO, atP, evp, evs, retV, ↓reduceIte, Nat.reduceEqDiff, reduceCtorEq, AS, show decide ((1 : Int) = 0) = false from rfl]
  exact hB
theorem nil_DivMod_b (w : World) (s1 s2 : Value) (l1 : List (El 8)) (l2 : List (El 8)) (h1 : Sl w s1 l1) (h2 : Sl w s2 l2) : CallV Try.prog 56 [.pointer none, s1, s2] w fun v w' => RowKit.Below w.heap.size w w' ∧ v = .tuple #[.slice none 0 0, .slice none 0 0, .int .i64 1] := by
  refine run_polys_Ring_b_DivMod (by simp) ?_
  simp only [c_polys_Ring_b_DivMod, WS, List.getElem_cons_zero, List.getElem_cons_succ, Option.isNone_some, Option.isNone_none, List.getD_cons_zero, List.getD_cons_succ, I.at, atL, atO, atP, evp, evs, retV, ↓reduceIte, Nat.reduceEqDiff, reduceCtorEq]
  refine X_bsl (zs := [hd s1, hd s2]) (fill2 h1 h2) rfl fun ls w1 ho hB => ?_
  simp (maxSteps := 1000000) (disch := omega) only [WS, List.getElem_cons_zero, List.getElem_cons_succ, Option.isNone_some, Option.isNone_none, List.getD_cons_zero, List.getD_cons_succ, I.at, atL, atO, atP, evp, evs, retV, ↓reduceIte, Nat.reduceEqDiff, reduceCtorEq, AS]
  refine X_call0 ((nil_refuses_b w1 ls).mono ?_)
  rintro _ w2 ⟨rfl, rfl⟩
  simp (maxSteps := 1000000) (disch := omega) only [WS, List.getElem_cons_zero, List.getElem_cons_succ, Option.isNone_some, Option.isNone_none, List.getD_cons_zero, List.getD_cons_succ, I.at, atL, atO, atP, evp, evs, retV, ↓reduceIte, Nat.reduceEqDiff, reduceCtorEq, AS, show decide ((1 : Int) = 0) = false from rfl]
  exact hB
theorem nil_Gcd_b (w : World) (s1 s2 : Value) (l1 : List (El 8)) (l2 : List (El 8)) (h1 : Sl w s1 l1) (h2 : Sl w s2 l2) : CallV Try.prog 60 [.pointer none, s1, s2] w fun v w' => RowKit.Below w.heap.size w w' ∧ v = .tuple #[.slice none 0 0, .int .i64 1] := by
  refine run_polys_Ring_b_Gcd (by simp) ?_
  simp only [c_polys_Ring_b_Gcd, WS, List.getElem_cons_zero, List.getElem_cons_succ, Option.isNone_some, Option.isNone_none, List.getD_cons_zero, List.getD_cons_succ, I.at, atL, atO, atP, evp, evs, retV, ↓reduceIte, Nat.reduceEqDiff, reduceCtorEq]
  refine X_bsl (zs := [hd s1, hd s2]) (fill2 h1 h2) rfl fun ls w1 ho hB => ?_
  simp (maxSteps := 1000000) (disch := omega) only [WS, List.getElem_cons_zero, List.getElem_cons_succ, Option.isNone_some, Option.isNone_none, List.getD_cons_zero, List.getD_cons_succ, I.at, atL, atO, atP, evp, evs, retV, ↓reduceIte, Nat.reduceEqDiff, reduceCtorEq, AS]
  refine X_call0 ((nil_refuses_b w1 ls).mono ?_)
  rintro _ w2 ⟨rfl, rfl⟩
  simp (maxSteps := 1000000) (disch := omega) only [WS, List.getElem_cons_zero, List.getElem_cons_succ, Option.isNone_some, Option.isNone_none, List.getD_cons_zero, List.getD_cons_succ, I.at, atL, atO, atP, evp, evs, retV, ↓reduceIte, Nat.reduceEqDiff, reduceCtorEq, AS, show decide ((1 : Int) = 0) = false from rfl]
  exact hB
theorem nil_Vanishing_b (w : World) (s1 : Value) (l1 : List (El 8)) (h1 : Sl w s1 l1) : CallV Try.prog 43 [.pointer none, s1] w fun v w' => RowKit.Below w.heap.size w w' ∧ v = .tuple #[.slice none 0 0, .int .i64 1] := by
  refine run_polys_Ring_b_Vanishing (by simp) ?_
  simp only [c_polys_Ring_b_Vanishing, WS, List.getElem_cons_zero, List.getElem_cons_succ, Option.isNone_some, Option.isNone_none, List.getD_cons_zero, List.getD_cons_succ, I.at, atL, atO, atP, evp, evs, retV, ↓reduceIte, Nat.reduceEqDiff, reduceCtorEq]
  refine X_bsl (zs := [hd s1]) (fill1 h1) rfl fun ls w1 ho hB => ?_
  simp (maxSteps := 1000000) (disch := omega) only [WS, List.getElem_cons_zero, List.getElem_cons_succ, Option.isNone_some, Option.isNone_none, List.getD_cons_zero, List.getD_cons_succ, I.at, atL, atO, atP, evp, evs, retV, ↓reduceIte, Nat.reduceEqDiff, reduceCtorEq, AS]
  refine X_call0 ((nil_refuses_b w1 ls).mono ?_)
  rintro _ w2 ⟨rfl, rfl⟩
  simp (maxSteps := 1000000) (disch := omega) only [WS, List.getElem_cons_zero, List.getElem_cons_succ, Option.isNone_some, Option.isNone_none, List.getD_cons_zero, List.getD_cons_succ, I.at, atL, atO, atP, evp, evs, retV, ↓reduceIte, Nat.reduceEqDiff, reduceCtorEq, AS, show decide ((1 : Int) = 0) = false from rfl]
  exact hB
theorem nil_Interpolate_b (w : World) (s1 s2 : Value) (l1 : List (El 8)) (l2 : List (El 8)) (h1 : Sl w s1 l1) (h2 : Sl w s2 l2) : CallV Try.prog 48 [.pointer none, s1, s2] w fun v w' => RowKit.Below w.heap.size w w' ∧ v = .tuple #[.slice none 0 0, .int .i64 1] := by
  refine run_polys_Ring_b_Interpolate (by simp) ?_
  simp only [c_polys_Ring_b_Interpolate, WS, List.getElem_cons_zero, List.getElem_cons_succ, Option.isNone_some, Option.isNone_none, List.getD_cons_zero, List.getD_cons_succ, I.at, atL, atO, atP, evp, evs, retV, ↓reduceIte, Nat.reduceEqDiff, reduceCtorEq]
  refine X_bsl (zs := [hd s1, hd s2]) (fill2 h1 h2) rfl fun ls w1 ho hB => ?_
  simp (maxSteps := 1000000) (disch := omega) only [WS, List.getElem_cons_zero, List.getElem_cons_succ, Option.isNone_some, Option.isNone_none, List.getD_cons_zero, List.getD_cons_succ, I.at, atL, atO, atP, evp, evs, retV, ↓reduceIte, Nat.reduceEqDiff, reduceCtorEq, AS]
  refine X_call0 ((nil_refuses_b w1 ls).mono ?_)
  rintro _ w2 ⟨rfl, rfl⟩
  simp (maxSteps := 1000000) (disch := omega) only [WS, List.getElem_cons_zero, List.getElem_cons_succ, Option.isNone_some, Option.isNone_none, List.getD_cons_zero, List.getD_cons_succ, I.at, atL, atO, atP, evp, evs, retV, ↓reduceIte, Nat.reduceEqDiff, reduceCtorEq, AS, show decide ((1 : Int) = 0) = false from rfl]
  exact hB
theorem nil_Partial_b (w : World) (s1 s2 : Value) (l1 : List (El 8)) (l2 : List (El 8)) (d : Int) (h1 : Sl w s1 l1) (h2 : Sl w s2 l2) : CallV Try.prog 58 [.pointer none, s1, s2, .int .i64 d] w fun v w' => RowKit.Below w.heap.size w w' ∧ v = .tuple #[.slice none 0 0, .slice none 0 0, .slice none 0 0, .int .i64 1] := by
  refine run_polys_Ring_b_Partial (by simp) ?_
  simp only [c_polys_Ring_b_Partial, WS, List.getElem_cons_zero, List.getElem_cons_succ, Option.isNone_some, Option.isNone_none, List.getD_cons_zero, List.getD_cons_succ, I.at, atL, atO, atP, evp, evs, retV, ↓reduceIte, Nat.reduceEqDiff, reduceCtorEq]
  refine X_bsl (zs := [hd s1, hd s2]) (fill2 h1 h2) rfl fun ls w1 ho hB => ?_
  simp (maxSteps := 1000000) (disch := omega) only [WS, List.getElem_cons_zero, List.getElem_cons_succ, Option.isNone_some, Option.isNone_none, List.getD_cons_zero, List.getD_cons_succ, I.at, atL, atO, atP, evp, evs, retV, ↓reduceIte, Nat.reduceEqDiff, reduceCtorEq, AS]
  refine X_call0 ((nil_refuses_b w1 ls).mono ?_)
  rintro _ w2 ⟨rfl, rfl⟩
  simp (maxSteps := 1000000) (disch := omega) only [WS, List.getElem_cons_zero, List.getElem_cons_succ, Option.isNone_some, Option.isNone_none, List.getD_cons_zero, List.getD_cons_succ, I.at, atL, atO, atP, evp, evs, retV, ↓reduceIte, Nat.reduceEqDiff, reduceCtorEq, AS, show decide ((1 : Int) = 0) = false from rfl]
  exact hB
theorem nil_Degree_b (w : World) (s1 : Value) : CallV Try.prog 62 [.pointer none, s1] w fun v w' => v = .int .i64 0 ∧ w' = w := by
  refine run_polys_Ring_b_Degree (by simp) ?_
  simp only [c_polys_Ring_b_Degree, WS, List.getElem_cons_zero, List.getElem_cons_succ, Option.isNone_some, Option.isNone_none, List.getD_cons_zero, List.getD_cons_succ, I.at, atL, atO, atP, evp, evs, retV, ↓reduceIte, Nat.reduceEqDiff, reduceCtorEq]
theorem nil_Eval_b (w : World) (s1 s2 : Value) : CallV Try.prog 54 [.pointer none, s1, s2] w fun v w' => v = .int .u8 0 ∧ w' = w := by
  refine run_polys_Ring_b_Eval (by simp) ?_
  simp only [c_polys_Ring_b_Eval, WS, List.getElem_cons_zero, List.getElem_cons_succ, Option.isNone_some, Option.isNone_none, List.getD_cons_zero, List.getD_cons_succ, I.at, atL, atO, atP, evp, evs, retV, ↓reduceIte, Nat.reduceEqDiff, reduceCtorEq]
theorem nil_Trim_b (w : World) (s1 : Value) : CallV Try.prog 50 [.pointer none, s1] w fun v w' => v = .slice none 0 0 ∧ w' = w := by
  refine run_polys_Ring_b_Trim (by simp) ?_
  simp only [c_polys_Ring_b_Trim, WS, List.getElem_cons_zero, List.getElem_cons_succ, Option.isNone_some, Option.isNone_none, List.getD_cons_zero, List.getD_cons_succ, I.at, atL, atO, atP, evp, evs, retV, ↓reduceIte, Nat.reduceEqDiff, reduceCtorEq]
theorem nil_Add_b (w : World) (s1 s2 : Value) : CallV Try.prog 52 [.pointer none, s1, s2] w fun v w' => v = .slice none 0 0 ∧ w' = w := by
  refine run_polys_Ring_b_Add (by simp) ?_
  simp only [c_polys_Ring_b_Add, WS, List.getElem_cons_zero, List.getElem_cons_succ, Option.isNone_some, Option.isNone_none, List.getD_cons_zero, List.getD_cons_succ, I.at, atL, atO, atP, evp, evs, retV, ↓reduceIte, Nat.reduceEqDiff, reduceCtorEq]
theorem nil_Derivative_b (w : World) (s1 : Value) : CallV Try.prog 45 [.pointer none, s1] w fun v w' => v = .slice none 0 0 ∧ w' = w := by
  refine run_polys_Ring_b_Derivative (by simp) ?_
  simp only [c_polys_Ring_b_Derivative, WS, List.getElem_cons_zero, List.getElem_cons_succ, Option.isNone_some, Option.isNone_none, List.getD_cons_zero, List.getD_cons_succ, I.at, atL, atO, atP, evp, evs, retV, ↓reduceIte, Nat.reduceEqDiff, reduceCtorEq]
theorem nilR_mul_w (w : World) (s1 : Value) (L1 : List (El 16)) (h1 : Sl w s1 L1) (b1 : L1.length ≤ 70368744175616) (s2 : Value) (L2 : List (El 16)) (h2 : Sl w s2 L2) (b2 : L2.length ≤ 70368744175616) : CallV Try.prog 13 [.agg #[.pointer none, .pointer none], .bool true, s1, s2] w fun v w' => RowKit.Below w.heap.size w w' ∧ ∃ z0, v = .tuple #[z0, .int .i64 1] ∧ Sl w' z0 ([] : List (El 16)) := by
  refine run_culletlaw04_Rings_mul (by simp) ?_
  simp only [c_culletlaw04_Rings_mul, WS, List.getElem_cons_zero, List.getElem_cons_succ, Option.isNone_some, Option.isNone_none, List.getD_cons_zero, List.getD_cons_succ, I.at, atL, atO, atP, evp, evs, retV, ↓reduceIte, Nat.reduceEqDiff, reduceCtorEq]
  refine X_box fun b w1 hr hlb hB1 => ?_
  have hr : Row w1 b [.pointer none, .pointer none] := hr
  simp only [WS, List.getElem_cons_zero, List.getElem_cons_succ, Option.isNone_some, Option.isNone_none, List.getD_cons_zero, List.getD_cons_succ, I.at, atL, atO, atP, evp, evs, retV, ↓reduceIte, Nat.reduceEqDiff, reduceCtorEq]
  refine WP_dops ?_
  have r0 := hr.drew
  have B0 : RowKit.Below w.heap.size w w1.drew := hB1.trans ((bel_drew w1).mono hB1.size)
  simp only [ES, List.mem_cons, List.not_mem_nil, implies_true, forall_const, WS, List.getElem_cons_zero, List.getElem_cons_succ, Option.isNone_some, Option.isNone_none, List.getD_cons_zero, List.getD_cons_succ, I.at, atL, atO, atP, evp, evs, retV, ↓reduceIte, Nat.reduceEqDiff, reduceCtorEq, addr_add0, Nat.add_zero, Nat.zero_add, r0.Eld (show 1 < [Value.pointer none, Value.pointer none].length by simp)]
  refine E_call0 ((culletlaw04_twin_spec w1.drew s1 L1 (h1.up B0) b1).mono ?_)
  rintro a1 v1 ⟨o1, c1⟩
  have B1 : RowKit.Below w.heap.size w v1 := B0.trans (c1.mono B0.size)
  have r1 := r0.up c1
  have z1 : Fw.sees Try.prog (.ld (.c (.pointer (some ⟨b, 1, none⟩)))) v1 (.pointer none) = True := r1.sees (o := 1) (by simp) Try.prog
  simp only [ES, List.mem_cons, List.not_mem_nil, implies_true, forall_const, WS, List.getElem_cons_zero, List.getElem_cons_succ, Option.isNone_some, Option.isNone_none, List.getD_cons_zero, List.getD_cons_succ, I.at, atL, atO, atP, evp, evs, retV, ↓reduceIte, Nat.reduceEqDiff, reduceCtorEq, z1]
  refine E_call0 ((culletlaw04_twin_spec v1 s2 L2 (h2.up B1) b2).mono ?_)
  rintro a2 v2 ⟨o2, c2⟩
  have B2 : RowKit.Below w.heap.size w v2 := B1.trans (c2.mono B1.size)
  have r2 := r1.up c2
  have z2 : Fw.sees Try.prog (.ld (.c (.pointer (some ⟨b, 1, none⟩)))) v2 (.pointer none) = True := r2.sees (o := 1) (by simp) Try.prog
  have o1 := o1.up c2
  simp only [ES, List.mem_cons, List.not_mem_nil, implies_true, forall_const, WS, List.getElem_cons_zero, List.getElem_cons_succ, Option.isNone_some, Option.isNone_none, List.getD_cons_zero, List.getD_cons_succ, I.at, atL, atO, atP, evp, evs, retV, ↓reduceIte, Nat.reduceEqDiff, reduceCtorEq, z2]
  refine E_call0 ((nil_Mul_w v2 a1 a2 _ _ o1.sl o2.sl).mono ?_)
  rintro _ w9 ⟨B9, rfl⟩
  have B9 := B2.trans (B9.mono B2.size)
  simp only [ES, List.mem_cons, List.not_mem_nil, implies_true, forall_const, WS, List.getElem_cons_zero, List.getElem_cons_succ, Option.isNone_some, Option.isNone_none, List.getD_cons_zero, List.getD_cons_succ, I.at, atL, atO, atP, evp, evs, retV, ↓reduceIte, Nat.reduceEqDiff, reduceCtorEq]
  exact ⟨B9, _, rfl, Sl.nil w9⟩
theorem nilR_divMod_w (w : World) (s1 : Value) (L1 : List (El 16)) (h1 : Sl w s1 L1) (b1 : L1.length ≤ 70368744175616) (s2 : Value) (L2 : List (El 16)) (h2 : Sl w s2 L2) (b2 : L2.length ≤ 70368744175616) : CallV Try.prog 26 [.agg #[.pointer none, .pointer none], .bool true, s1, s2] w fun v w' => RowKit.Below w.heap.size w w' ∧ ∃ z0 z1, v = .tuple #[z0, z1, .int .i64 1] ∧ Sl w' z0 ([] : List (El 16)) ∧ Sl w' z1 ([] : List (El 16)) := by
  refine run_culletlaw04_Rings_divMod (by simp) ?_
  simp only [c_culletlaw04_Rings_divMod, WS, List.getElem_cons_zero, List.getElem_cons_succ, Option.isNone_some, Option.isNone_none, List.getD_cons_zero, List.getD_cons_succ, I.at, atL, atO, atP, evp, evs, retV, ↓reduceIte, Nat.reduceEqDiff, reduceCtorEq]
  refine X_box fun b w1 hr hlb hB1 => ?_
  have hr : Row w1 b [.pointer none, .pointer none] := hr
  simp only [WS, List.getElem_cons_zero, List.getElem_cons_succ, Option.isNone_some, Option.isNone_none, List.getD_cons_zero, List.getD_cons_succ, I.at, atL, atO, atP, evp, evs, retV, ↓reduceIte, Nat.reduceEqDiff, reduceCtorEq]
  refine WP_dops ?_
  have r0 := hr.drew
  have B0 : RowKit.Below w.heap.size w w1.drew := hB1.trans ((bel_drew w1).mono hB1.size)
  simp only [ES, List.mem_cons, List.not_mem_nil, implies_true, forall_const, WS, List.getElem_cons_zero, List.getElem_cons_succ, Option.isNone_some, Option.isNone_none, List.getD_cons_zero, List.getD_cons_succ, I.at, atL, atO, atP, evp, evs, retV, ↓reduceIte, Nat.reduceEqDiff, reduceCtorEq, addr_add0, Nat.add_zero, Nat.zero_add, r0.Eld (show 1 < [Value.pointer none, Value.pointer none].length by simp)]
  refine E_call0 ((culletlaw04_twin_spec w1.drew s1 L1 (h1.up B0) b1).mono ?_)
  rintro a1 v1 ⟨o1, c1⟩
  have B1 : RowKit.Below w.heap.size w v1 := B0.trans (c1.mono B0.size)
  have r1 := r0.up c1
  have z1 : Fw.sees Try.prog (.ld (.c (.pointer (some ⟨b, 1, none⟩)))) v1 (.pointer none) = True := r1.sees (o := 1) (by simp) Try.prog
  simp only [ES, List.mem_cons, List.not_mem_nil, implies_true, forall_const, WS, List.getElem_cons_zero, List.getElem_cons_succ, Option.isNone_some, Option.isNone_none, List.getD_cons_zero, List.getD_cons_succ, I.at, atL, atO, atP, evp, evs, retV, ↓reduceIte, Nat.reduceEqDiff, reduceCtorEq, z1]
  refine E_call0 ((culletlaw04_twin_spec v1 s2 L2 (h2.up B1) b2).mono ?_)
  rintro a2 v2 ⟨o2, c2⟩
  have B2 : RowKit.Below w.heap.size w v2 := B1.trans (c2.mono B1.size)
  have r2 := r1.up c2
  have z2 : Fw.sees Try.prog (.ld (.c (.pointer (some ⟨b, 1, none⟩)))) v2 (.pointer none) = True := r2.sees (o := 1) (by simp) Try.prog
  have o1 := o1.up c2
  simp only [ES, List.mem_cons, List.not_mem_nil, implies_true, forall_const, WS, List.getElem_cons_zero, List.getElem_cons_succ, Option.isNone_some, Option.isNone_none, List.getD_cons_zero, List.getD_cons_succ, I.at, atL, atO, atP, evp, evs, retV, ↓reduceIte, Nat.reduceEqDiff, reduceCtorEq, z2]
  refine E_call0 ((nil_DivMod_w v2 a1 a2 _ _ o1.sl o2.sl).mono ?_)
  rintro _ w9 ⟨B9, rfl⟩
  have B9 := B2.trans (B9.mono B2.size)
  simp only [ES, List.mem_cons, List.not_mem_nil, implies_true, forall_const, WS, List.getElem_cons_zero, List.getElem_cons_succ, Option.isNone_some, Option.isNone_none, List.getD_cons_zero, List.getD_cons_succ, I.at, atL, atO, atP, evp, evs, retV, ↓reduceIte, Nat.reduceEqDiff, reduceCtorEq]
  exact ⟨B9, _, _, rfl, Sl.nil w9, Sl.nil w9⟩
theorem nilR_gcd_w (w : World) (s1 : Value) (L1 : List (El 16)) (h1 : Sl w s1 L1) (b1 : L1.length ≤ 70368744175616) (s2 : Value) (L2 : List (El 16)) (h2 : Sl w s2 L2) (b2 : L2.length ≤ 70368744175616) : CallV Try.prog 29 [.agg #[.pointer none, .pointer none], .bool true, s1, s2] w fun v w' => RowKit.Below w.heap.size w w' ∧ ∃ z0, v = .tuple #[z0, .int .i64 1] ∧ Sl w' z0 ([] : List (El 16)) := by
  refine run_culletlaw04_Rings_gcd (by simp) ?_
  simp only [c_culletlaw04_Rings_gcd, WS, List.getElem_cons_zero, List.getElem_cons_succ, Option.isNone_some, Option.isNone_none, List.getD_cons_zero, List.getD_cons_succ, I.at, atL, atO, atP, evp, evs, retV, ↓reduceIte, Nat.reduceEqDiff, reduceCtorEq]
  refine X_box fun b w1 hr hlb hB1 => ?_
  have hr : Row w1 b [.pointer none, .pointer none] := hr
  simp only [WS, List.getElem_cons_zero, List.getElem_cons_succ, Option.isNone_some, Option.isNone_none, List.getD_cons_zero, List.getD_cons_succ, I.at, atL, atO, atP, evp, evs, retV, ↓reduceIte, Nat.reduceEqDiff, reduceCtorEq]
  refine WP_dops ?_
  have r0 := hr.drew
  have B0 : RowKit.Below w.heap.size w w1.drew := hB1.trans ((bel_drew w1).mono hB1.size)
  simp only [ES, List.mem_cons, List.not_mem_nil, implies_true, forall_const, WS, List.getElem_cons_zero, List.getElem_cons_succ, Option.isNone_some, Option.isNone_none, List.getD_cons_zero, List.getD_cons_succ, I.at, atL, atO, atP, evp, evs, retV, ↓reduceIte, Nat.reduceEqDiff, reduceCtorEq, addr_add0, Nat.add_zero, Nat.zero_add, r0.Eld (show 1 < [Value.pointer none, Value.pointer none].length by simp)]
  refine E_call0 ((culletlaw04_twin_spec w1.drew s1 L1 (h1.up B0) b1).mono ?_)
  rintro a1 v1 ⟨o1, c1⟩
  have B1 : RowKit.Below w.heap.size w v1 := B0.trans (c1.mono B0.size)
  have r1 := r0.up c1
  have z1 : Fw.sees Try.prog (.ld (.c (.pointer (some ⟨b, 1, none⟩)))) v1 (.pointer none) = True := r1.sees (o := 1) (by simp) Try.prog
  simp only [ES, List.mem_cons, List.not_mem_nil, implies_true, forall_const, WS, List.getElem_cons_zero, List.getElem_cons_succ, Option.isNone_some, Option.isNone_none, List.getD_cons_zero, List.getD_cons_succ, I.at, atL, atO, atP, evp, evs, retV, ↓reduceIte, Nat.reduceEqDiff, reduceCtorEq, z1]
  refine E_call0 ((culletlaw04_twin_spec v1 s2 L2 (h2.up B1) b2).mono ?_)
  rintro a2 v2 ⟨o2, c2⟩
  have B2 : RowKit.Below w.heap.size w v2 := B1.trans (c2.mono B1.size)
  have r2 := r1.up c2
  have z2 : Fw.sees Try.prog (.ld (.c (.pointer (some ⟨b, 1, none⟩)))) v2 (.pointer none) = True := r2.sees (o := 1) (by simp) Try.prog
  have o1 := o1.up c2
  simp only [ES, List.mem_cons, List.not_mem_nil, implies_true, forall_const, WS, List.getElem_cons_zero, List.getElem_cons_succ, Option.isNone_some, Option.isNone_none, List.getD_cons_zero, List.getD_cons_succ, I.at, atL, atO, atP, evp, evs, retV, ↓reduceIte, Nat.reduceEqDiff, reduceCtorEq, z2]
  refine E_call0 ((nil_Gcd_w v2 a1 a2 _ _ o1.sl o2.sl).mono ?_)
  rintro _ w9 ⟨B9, rfl⟩
  have B9 := B2.trans (B9.mono B2.size)
  simp only [ES, List.mem_cons, List.not_mem_nil, implies_true, forall_const, WS, List.getElem_cons_zero, List.getElem_cons_succ, Option.isNone_some, Option.isNone_none, List.getD_cons_zero, List.getD_cons_succ, I.at, atL, atO, atP, evp, evs, retV, ↓reduceIte, Nat.reduceEqDiff, reduceCtorEq]
  exact ⟨B9, _, rfl, Sl.nil w9⟩
theorem nilR_vanishing_w (w : World) (s1 : Value) (L1 : List (El 16)) (h1 : Sl w s1 L1) (b1 : L1.length ≤ 70368744175616) : CallV Try.prog 14 [.agg #[.pointer none, .pointer none], .bool true, s1] w fun v w' => RowKit.Below w.heap.size w w' ∧ ∃ z0, v = .tuple #[z0, .int .i64 1] ∧ Sl w' z0 ([] : List (El 16)) := by
  refine run_culletlaw04_Rings_vanishing (by simp) ?_
  simp only [c_culletlaw04_Rings_vanishing, WS, List.getElem_cons_zero, List.getElem_cons_succ, Option.isNone_some, Option.isNone_none, List.getD_cons_zero, List.getD_cons_succ, I.at, atL, atO, atP, evp, evs, retV, ↓reduceIte, Nat.reduceEqDiff, reduceCtorEq]
  refine X_box fun b w1 hr hlb hB1 => ?_
  have hr : Row w1 b [.pointer none, .pointer none] := hr
  simp only [WS, List.getElem_cons_zero, List.getElem_cons_succ, Option.isNone_some, Option.isNone_none, List.getD_cons_zero, List.getD_cons_succ, I.at, atL, atO, atP, evp, evs, retV, ↓reduceIte, Nat.reduceEqDiff, reduceCtorEq]
  refine WP_dops ?_
  have r0 := hr.drew
  have B0 : RowKit.Below w.heap.size w w1.drew := hB1.trans ((bel_drew w1).mono hB1.size)
  simp only [ES, List.mem_cons, List.not_mem_nil, implies_true, forall_const, WS, List.getElem_cons_zero, List.getElem_cons_succ, Option.isNone_some, Option.isNone_none, List.getD_cons_zero, List.getD_cons_succ, I.at, atL, atO, atP, evp, evs, retV, ↓reduceIte, Nat.reduceEqDiff, reduceCtorEq, addr_add0, Nat.add_zero, Nat.zero_add, r0.Eld (show 1 < [Value.pointer none, Value.pointer none].length by simp)]
  refine E_call0 ((culletlaw04_twin_spec w1.drew s1 L1 (h1.up B0) b1).mono ?_)
  rintro a1 v1 ⟨o1, c1⟩
  have B1 : RowKit.Below w.heap.size w v1 := B0.trans (c1.mono B0.size)
  have r1 := r0.up c1
  have z1 : Fw.sees Try.prog (.ld (.c (.pointer (some ⟨b, 1, none⟩)))) v1 (.pointer none) = True := r1.sees (o := 1) (by simp) Try.prog
  simp only [ES, List.mem_cons, List.not_mem_nil, implies_true, forall_const, WS, List.getElem_cons_zero, List.getElem_cons_succ, Option.isNone_some, Option.isNone_none, List.getD_cons_zero, List.getD_cons_succ, I.at, atL, atO, atP, evp, evs, retV, ↓reduceIte, Nat.reduceEqDiff, reduceCtorEq, z1]
  refine E_call0 ((nil_Vanishing_w v1 a1 _ o1.sl).mono ?_)
  rintro _ w9 ⟨B9, rfl⟩
  have B9 := B1.trans (B9.mono B1.size)
  simp only [ES, List.mem_cons, List.not_mem_nil, implies_true, forall_const, WS, List.getElem_cons_zero, List.getElem_cons_succ, Option.isNone_some, Option.isNone_none, List.getD_cons_zero, List.getD_cons_succ, I.at, atL, atO, atP, evp, evs, retV, ↓reduceIte, Nat.reduceEqDiff, reduceCtorEq]
  exact ⟨B9, _, rfl, Sl.nil w9⟩
theorem nilR_interpolate_w (w : World) (s1 : Value) (L1 : List (El 16)) (h1 : Sl w s1 L1) (b1 : L1.length ≤ 70368744175616) (s2 : Value) (L2 : List (El 16)) (h2 : Sl w s2 L2) (b2 : L2.length ≤ 70368744175616) : CallV Try.prog 20 [.agg #[.pointer none, .pointer none], .bool true, s1, s2] w fun v w' => RowKit.Below w.heap.size w w' ∧ ∃ z0, v = .tuple #[z0, .int .i64 1] ∧ Sl w' z0 ([] : List (El 16)) := by
  refine run_culletlaw04_Rings_interpolate (by simp) ?_
  simp only [c_culletlaw04_Rings_interpolate, WS, List.getElem_cons_zero, List.getElem_cons_succ, Option.isNone_some, Option.isNone_none, List.getD_cons_zero, List.getD_cons_succ, I.at, atL, atO, atP, evp, evs, retV, ↓reduceIte, Nat.reduceEqDiff, reduceCtorEq]
  refine X_box fun b w1 hr hlb hB1 => ?_
  have hr : Row w1 b [.pointer none, .pointer none] := hr
  simp only [WS, List.getElem_cons_zero, List.getElem_cons_succ, Option.isNone_some, Option.isNone_none, List.getD_cons_zero, List.getD_cons_succ, I.at, atL, atO, atP, evp, evs, retV, ↓reduceIte, Nat.reduceEqDiff, reduceCtorEq]
  refine WP_dops ?_
  have r0 := hr.drew
  have B0 : RowKit.Below w.heap.size w w1.drew := hB1.trans ((bel_drew w1).mono hB1.size)
  simp only [ES, List.mem_cons, List.not_mem_nil, implies_true, forall_const, WS, List.getElem_cons_zero, List.getElem_cons_succ, Option.isNone_some, Option.isNone_none, List.getD_cons_zero, List.getD_cons_succ, I.at, atL, atO, atP, evp, evs, retV, ↓reduceIte, Nat.reduceEqDiff, reduceCtorEq, addr_add0, Nat.add_zero, Nat.zero_add, r0.Eld (show 1 < [Value.pointer none, Value.pointer none].length by simp)]
  refine E_call0 ((culletlaw04_twin_spec w1.drew s1 L1 (h1.up B0) b1).mono ?_)
  rintro a1 v1 ⟨o1, c1⟩
  have B1 : RowKit.Below w.heap.size w v1 := B0.trans (c1.mono B0.size)
  have r1 := r0.up c1
  have z1 : Fw.sees Try.prog (.ld (.c (.pointer (some ⟨b, 1, none⟩)))) v1 (.pointer none) = True := r1.sees (o := 1) (by simp) Try.prog
  simp only [ES, List.mem_cons, List.not_mem_nil, implies_true, forall_const, WS, List.getElem_cons_zero, List.getElem_cons_succ, Option.isNone_some, Option.isNone_none, List.getD_cons_zero, List.getD_cons_succ, I.at, atL, atO, atP, evp, evs, retV, ↓reduceIte, Nat.reduceEqDiff, reduceCtorEq, z1]
  refine E_call0 ((culletlaw04_twin_spec v1 s2 L2 (h2.up B1) b2).mono ?_)
  rintro a2 v2 ⟨o2, c2⟩
  have B2 : RowKit.Below w.heap.size w v2 := B1.trans (c2.mono B1.size)
  have r2 := r1.up c2
  have z2 : Fw.sees Try.prog (.ld (.c (.pointer (some ⟨b, 1, none⟩)))) v2 (.pointer none) = True := r2.sees (o := 1) (by simp) Try.prog
  have o1 := o1.up c2
  simp only [ES, List.mem_cons, List.not_mem_nil, implies_true, forall_const, WS, List.getElem_cons_zero, List.getElem_cons_succ, Option.isNone_some, Option.isNone_none, List.getD_cons_zero, List.getD_cons_succ, I.at, atL, atO, atP, evp, evs, retV, ↓reduceIte, Nat.reduceEqDiff, reduceCtorEq, z2]
  refine E_call0 ((nil_Interpolate_w v2 a1 a2 _ _ o1.sl o2.sl).mono ?_)
  rintro _ w9 ⟨B9, rfl⟩
  have B9 := B2.trans (B9.mono B2.size)
  simp only [ES, List.mem_cons, List.not_mem_nil, implies_true, forall_const, WS, List.getElem_cons_zero, List.getElem_cons_succ, Option.isNone_some, Option.isNone_none, List.getD_cons_zero, List.getD_cons_succ, I.at, atL, atO, atP, evp, evs, retV, ↓reduceIte, Nat.reduceEqDiff, reduceCtorEq]
  exact ⟨B9, _, rfl, Sl.nil w9⟩
theorem nilR_partial_w (w : World) (s1 : Value) (L1 : List (El 16)) (h1 : Sl w s1 L1) (b1 : L1.length ≤ 70368744175616) (s2 : Value) (L2 : List (El 16)) (h2 : Sl w s2 L2) (b2 : L2.length ≤ 70368744175616) (d : Int) : CallV Try.prog 28 [.agg #[.pointer none, .pointer none], .bool true, s1, s2, .int .i64 d] w fun v w' => RowKit.Below w.heap.size w w' ∧ ∃ z0 z1 z2, v = .tuple #[z0, z1, z2, .int .i64 1] ∧ Sl w' z0 ([] : List (El 16)) ∧ Sl w' z1 ([] : List (El 16)) ∧ Sl w' z2 ([] : List (El 16)) := by
  refine run_culletlaw04_Rings_partial (by simp) ?_
  simp only [c_culletlaw04_Rings_partial, WS, List.getElem_cons_zero, List.getElem_cons_succ, Option.isNone_some, Option.isNone_none, List.getD_cons_zero, List.getD_cons_succ, I.at, atL, atO, atP, evp, evs, retV, ↓reduceIte, Nat.reduceEqDiff, reduceCtorEq]
  refine X_box fun b w1 hr hlb hB1 => ?_
  have hr : Row w1 b [.pointer none, .pointer none] := hr
  simp only [WS, List.getElem_cons_zero, List.getElem_cons_succ, Option.isNone_some, Option.isNone_none, List.getD_cons_zero, List.getD_cons_succ, I.at, atL, atO, atP, evp, evs, retV, ↓reduceIte, Nat.reduceEqDiff, reduceCtorEq]
  refine WP_dops ?_
  have r0 := hr.drew
  have B0 : RowKit.Below w.heap.size w w1.drew := hB1.trans ((bel_drew w1).mono hB1.size)
  simp only [ES, List.mem_cons, List.not_mem_nil, implies_true, forall_const, WS, List.getElem_cons_zero, List.getElem_cons_succ, Option.isNone_some, Option.isNone_none, List.getD_cons_zero, List.getD_cons_succ, I.at, atL, atO, atP, evp, evs, retV, ↓reduceIte, Nat.reduceEqDiff, reduceCtorEq, addr_add0, Nat.add_zero, Nat.zero_add, r0.Eld (show 1 < [Value.pointer none, Value.pointer none].length by simp)]
  refine E_call0 ((culletlaw04_twin_spec w1.drew s1 L1 (h1.up B0) b1).mono ?_)
  rintro a1 v1 ⟨o1, c1⟩
  have B1 : RowKit.Below w.heap.size w v1 := B0.trans (c1.mono B0.size)
  have r1 := r0.up c1
  have z1 : Fw.sees Try.prog (.ld (.c (.pointer (some ⟨b, 1, none⟩)))) v1 (.pointer none) = True := r1.sees (o := 1) (by simp) Try.prog
  simp only [ES, List.mem_cons, List.not_mem_nil, implies_true, forall_const, WS, List.getElem_cons_zero, List.getElem_cons_succ, Option.isNone_some, Option.isNone_none, List.getD_cons_zero, List.getD_cons_succ, I.at, atL, atO, atP, evp, evs, retV, ↓reduceIte, Nat.reduceEqDiff, reduceCtorEq, z1]
  refine E_call0 ((culletlaw04_twin_spec v1 s2 L2 (h2.up B1) b2).mono ?_)
  rintro a2 v2 ⟨o2, c2⟩
  have B2 : RowKit.Below w.heap.size w v2 := B1.trans (c2.mono B1.size)
  have r2 := r1.up c2
  have z2 : Fw.sees Try.prog (.ld (.c (.pointer (some ⟨b, 1, none⟩)))) v2 (.pointer none) = True := r2.sees (o := 1) (by simp) Try.prog
  have o1 := o1.up c2
  simp only [ES, List.mem_cons, List.not_mem_nil, implies_true, forall_const, WS, List.getElem_cons_zero, List.getElem_cons_succ, Option.isNone_some, Option.isNone_none, List.getD_cons_zero, List.getD_cons_succ, I.at, atL, atO, atP, evp, evs, retV, ↓reduceIte, Nat.reduceEqDiff, reduceCtorEq, z2]
  refine E_call0 ((nil_Partial_w v2 a1 a2 _ _ d o1.sl o2.sl).mono ?_)
  rintro _ w9 ⟨B9, rfl⟩
  have B9 := B2.trans (B9.mono B2.size)
  simp only [ES, List.mem_cons, List.not_mem_nil, implies_true, forall_const, WS, List.getElem_cons_zero, List.getElem_cons_succ, Option.isNone_some, Option.isNone_none, List.getD_cons_zero, List.getD_cons_succ, I.at, atL, atO, atP, evp, evs, retV, ↓reduceIte, Nat.reduceEqDiff, reduceCtorEq]
  exact ⟨B9, _, _, _, rfl, Sl.nil w9, Sl.nil w9, Sl.nil w9⟩
theorem nilR_degree_w (w : World) (s1 : Value) (L1 : List (El 16)) (h1 : Sl w s1 L1) (b1 : L1.length ≤ 70368744175616) : CallV Try.prog 30 [.agg #[.pointer none, .pointer none], .bool true, s1] w fun v w' => RowKit.Below w.heap.size w w' ∧ v = .int .i64 0 := by
  refine run_culletlaw04_Rings_degree (by simp) ?_
  simp only [c_culletlaw04_Rings_degree, WS, List.getElem_cons_zero, List.getElem_cons_succ, Option.isNone_some, Option.isNone_none, List.getD_cons_zero, List.getD_cons_succ, I.at, atL, atO, atP, evp, evs, retV, ↓reduceIte, Nat.reduceEqDiff, reduceCtorEq]
  refine X_box fun b w1 hr hlb hB1 => ?_
  have hr : Row w1 b [.pointer none, .pointer none] := hr
  simp only [WS, List.getElem_cons_zero, List.getElem_cons_succ, Option.isNone_some, Option.isNone_none, List.getD_cons_zero, List.getD_cons_succ, I.at, atL, atO, atP, evp, evs, retV, ↓reduceIte, Nat.reduceEqDiff, reduceCtorEq]
  refine WP_dops ?_
  have r0 := hr.drew
  have B0 : RowKit.Below w.heap.size w w1.drew := hB1.trans ((bel_drew w1).mono hB1.size)
  simp only [ES, List.mem_cons, List.not_mem_nil, implies_true, forall_const, WS, List.getElem_cons_zero, List.getElem_cons_succ, Option.isNone_some, Option.isNone_none, List.getD_cons_zero, List.getD_cons_succ, I.at, atL, atO, atP, evp, evs, retV, ↓reduceIte, Nat.reduceEqDiff, reduceCtorEq, addr_add0, Nat.add_zero, Nat.zero_add, r0.Eld (show 1 < [Value.pointer none, Value.pointer none].length by simp)]
  refine E_call0 ((culletlaw04_twin_spec w1.drew s1 L1 (h1.up B0) b1).mono ?_)
  rintro a1 v1 ⟨o1, c1⟩
  have B1 : RowKit.Below w.heap.size w v1 := B0.trans (c1.mono B0.size)
  have r1 := r0.up c1
  have z1 : Fw.sees Try.prog (.ld (.c (.pointer (some ⟨b, 1, none⟩)))) v1 (.pointer none) = True := r1.sees (o := 1) (by simp) Try.prog
  simp only [ES, List.mem_cons, List.not_mem_nil, implies_true, forall_const, WS, List.getElem_cons_zero, List.getElem_cons_succ, Option.isNone_some, Option.isNone_none, List.getD_cons_zero, List.getD_cons_succ, I.at, atL, atO, atP, evp, evs, retV, ↓reduceIte, Nat.reduceEqDiff, reduceCtorEq, z1]
  refine E_call0 ((nil_Degree_w v1 a1).mono ?_)
  rintro _ w9 ⟨rfl, rfl⟩
  simp only [ES, List.mem_cons, List.not_mem_nil, implies_true, forall_const, WS, List.getElem_cons_zero, List.getElem_cons_succ, Option.isNone_some, Option.isNone_none, List.getD_cons_zero, List.getD_cons_succ, I.at, atL, atO, atP, evp, evs, retV, ↓reduceIte, Nat.reduceEqDiff, reduceCtorEq]
  exact B1
theorem nilR_eval_w (w : World) (s1 : Value) (L1 : List (El 16)) (h1 : Sl w s1 L1) (b1 : L1.length ≤ 70368744175616) : CallV Try.prog 25 [.agg #[.pointer none, .pointer none], .bool true, s1, .int .u16 3] w fun v w' => RowKit.Below w.heap.size w w' ∧ v = .int .u16 0 := by
  refine run_culletlaw04_Rings_eval (by simp) ?_
  simp only [c_culletlaw04_Rings_eval, WS, List.getElem_cons_zero, List.getElem_cons_succ, Option.isNone_some, Option.isNone_none, List.getD_cons_zero, List.getD_cons_succ, I.at, atL, atO, atP, evp, evs, retV, ↓reduceIte, Nat.reduceEqDiff, reduceCtorEq]
  refine X_box fun b w1 hr hlb hB1 => ?_
  have hr : Row w1 b [.pointer none, .pointer none] := hr
  simp only [WS, List.getElem_cons_zero, List.getElem_cons_succ, Option.isNone_some, Option.isNone_none, List.getD_cons_zero, List.getD_cons_succ, I.at, atL, atO, atP, evp, evs, retV, ↓reduceIte, Nat.reduceEqDiff, reduceCtorEq]
  refine WP_dops ?_
  have r0 := hr.drew
  have B0 : RowKit.Below w.heap.size w w1.drew := hB1.trans ((bel_drew w1).mono hB1.size)
  simp only [ES, List.mem_cons, List.not_mem_nil, implies_true, forall_const, WS, List.getElem_cons_zero, List.getElem_cons_succ, Option.isNone_some, Option.isNone_none, List.getD_cons_zero, List.getD_cons_succ, I.at, atL, atO, atP, evp, evs, retV, ↓reduceIte, Nat.reduceEqDiff, reduceCtorEq, addr_add0, Nat.add_zero, Nat.zero_add, r0.Eld (show 1 < [Value.pointer none, Value.pointer none].length by simp)]
  refine E_call0 ((culletlaw04_twin_spec w1.drew s1 L1 (h1.up B0) b1).mono ?_)
  rintro a1 v1 ⟨o1, c1⟩
  have B1 : RowKit.Below w.heap.size w v1 := B0.trans (c1.mono B0.size)
  have r1 := r0.up c1
  have z1 : Fw.sees Try.prog (.ld (.c (.pointer (some ⟨b, 1, none⟩)))) v1 (.pointer none) = True := r1.sees (o := 1) (by simp) Try.prog
  simp only [ES, List.mem_cons, List.not_mem_nil, implies_true, forall_const, WS, List.getElem_cons_zero, List.getElem_cons_succ, Option.isNone_some, Option.isNone_none, List.getD_cons_zero, List.getD_cons_succ, I.at, atL, atO, atP, evp, evs, retV, ↓reduceIte, Nat.reduceEqDiff, reduceCtorEq, z1]
  refine E_call0 ((nil_Eval_w v1 a1 (.int .u16 3)).mono ?_)
  rintro _ w9 ⟨rfl, rfl⟩
  simp only [ES, List.mem_cons, List.not_mem_nil, implies_true, forall_const, WS, List.getElem_cons_zero, List.getElem_cons_succ, Option.isNone_some, Option.isNone_none, List.getD_cons_zero, List.getD_cons_succ, I.at, atL, atO, atP, evp, evs, retV, ↓reduceIte, Nat.reduceEqDiff, reduceCtorEq]
  exact B1
theorem nilR_trim_w (w : World) (s1 : Value) (L1 : List (El 16)) (h1 : Sl w s1 L1) (b1 : L1.length ≤ 70368744175616) : CallV Try.prog 22 [.agg #[.pointer none, .pointer none], .bool true, s1] w fun v w' => RowKit.Below w.heap.size w w' ∧ Sl w' v ([] : List (El 16)) := by
  refine run_culletlaw04_Rings_trim (by simp) ?_
  simp only [c_culletlaw04_Rings_trim, WS, List.getElem_cons_zero, List.getElem_cons_succ, Option.isNone_some, Option.isNone_none, List.getD_cons_zero, List.getD_cons_succ, I.at, atL, atO, atP, evp, evs, retV, ↓reduceIte, Nat.reduceEqDiff, reduceCtorEq]
  refine X_box fun b w1 hr hlb hB1 => ?_
  have hr : Row w1 b [.pointer none, .pointer none] := hr
  simp only [WS, List.getElem_cons_zero, List.getElem_cons_succ, Option.isNone_some, Option.isNone_none, List.getD_cons_zero, List.getD_cons_succ, I.at, atL, atO, atP, evp, evs, retV, ↓reduceIte, Nat.reduceEqDiff, reduceCtorEq]
  refine WP_dops ?_
  have r0 := hr.drew
  have B0 : RowKit.Below w.heap.size w w1.drew := hB1.trans ((bel_drew w1).mono hB1.size)
  simp only [ES, List.mem_cons, List.not_mem_nil, implies_true, forall_const, WS, List.getElem_cons_zero, List.getElem_cons_succ, Option.isNone_some, Option.isNone_none, List.getD_cons_zero, List.getD_cons_succ, I.at, atL, atO, atP, evp, evs, retV, ↓reduceIte, Nat.reduceEqDiff, reduceCtorEq, addr_add0, Nat.add_zero, Nat.zero_add, r0.Eld (show 1 < [Value.pointer none, Value.pointer none].length by simp)]
  refine E_call0 ((culletlaw04_twin_spec w1.drew s1 L1 (h1.up B0) b1).mono ?_)
  rintro a1 v1 ⟨o1, c1⟩
  have B1 : RowKit.Below w.heap.size w v1 := B0.trans (c1.mono B0.size)
  have r1 := r0.up c1
  have z1 : Fw.sees Try.prog (.ld (.c (.pointer (some ⟨b, 1, none⟩)))) v1 (.pointer none) = True := r1.sees (o := 1) (by simp) Try.prog
  simp only [ES, List.mem_cons, List.not_mem_nil, implies_true, forall_const, WS, List.getElem_cons_zero, List.getElem_cons_succ, Option.isNone_some, Option.isNone_none, List.getD_cons_zero, List.getD_cons_succ, I.at, atL, atO, atP, evp, evs, retV, ↓reduceIte, Nat.reduceEqDiff, reduceCtorEq, z1]
  refine E_call0 ((nil_Trim_w v1 a1).mono ?_)
  rintro _ w9 ⟨rfl, rfl⟩
  simp only [ES, List.mem_cons, List.not_mem_nil, implies_true, forall_const, WS, List.getElem_cons_zero, List.getElem_cons_succ, Option.isNone_some, Option.isNone_none, List.getD_cons_zero, List.getD_cons_succ, I.at, atL, atO, atP, evp, evs, retV, ↓reduceIte, Nat.reduceEqDiff, reduceCtorEq]
  exact ⟨B1, Sl.nil _⟩
theorem nilR_add_w (w : World) (s1 : Value) (L1 : List (El 16)) (h1 : Sl w s1 L1) (b1 : L1.length ≤ 70368744175616) (s2 : Value) (L2 : List (El 16)) (h2 : Sl w s2 L2) (b2 : L2.length ≤ 70368744175616) : CallV Try.prog 24 [.agg #[.pointer none, .pointer none], .bool true, s1, s2] w fun v w' => RowKit.Below w.heap.size w w' ∧ Sl w' v ([] : List (El 16)) := by
  refine run_culletlaw04_Rings_add (by simp) ?_
  simp only [c_culletlaw04_Rings_add, WS, List.getElem_cons_zero, List.getElem_cons_succ, Option.isNone_some, Option.isNone_none, List.getD_cons_zero, List.getD_cons_succ, I.at, atL, atO, atP, evp, evs, retV, ↓reduceIte, Nat.reduceEqDiff, reduceCtorEq]
  refine X_box fun b w1 hr hlb hB1 => ?_
  have hr : Row w1 b [.pointer none, .pointer none] := hr
  simp only [WS, List.getElem_cons_zero, List.getElem_cons_succ, Option.isNone_some, Option.isNone_none, List.getD_cons_zero, List.getD_cons_succ, I.at, atL, atO, atP, evp, evs, retV, ↓reduceIte, Nat.reduceEqDiff, reduceCtorEq]
  refine WP_dops ?_
  have r0 := hr.drew
  have B0 : RowKit.Below w.heap.size w w1.drew := hB1.trans ((bel_drew w1).mono hB1.size)
  simp only [ES, List.mem_cons, List.not_mem_nil, implies_true, forall_const, WS, List.getElem_cons_zero, List.getElem_cons_succ, Option.isNone_some, Option.isNone_none, List.getD_cons_zero, List.getD_cons_succ, I.at, atL, atO, atP, evp, evs, retV, ↓reduceIte, Nat.reduceEqDiff, reduceCtorEq, addr_add0, Nat.add_zero, Nat.zero_add, r0.Eld (show 1 < [Value.pointer none, Value.pointer none].length by simp)]
  refine E_call0 ((culletlaw04_twin_spec w1.drew s1 L1 (h1.up B0) b1).mono ?_)
  rintro a1 v1 ⟨o1, c1⟩
  have B1 : RowKit.Below w.heap.size w v1 := B0.trans (c1.mono B0.size)
  have r1 := r0.up c1
  have z1 : Fw.sees Try.prog (.ld (.c (.pointer (some ⟨b, 1, none⟩)))) v1 (.pointer none) = True := r1.sees (o := 1) (by simp) Try.prog
  simp only [ES, List.mem_cons, List.not_mem_nil, implies_true, forall_const, WS, List.getElem_cons_zero, List.getElem_cons_succ, Option.isNone_some, Option.isNone_none, List.getD_cons_zero, List.getD_cons_succ, I.at, atL, atO, atP, evp, evs, retV, ↓reduceIte, Nat.reduceEqDiff, reduceCtorEq, z1]
  refine E_call0 ((culletlaw04_twin_spec v1 s2 L2 (h2.up B1) b2).mono ?_)
  rintro a2 v2 ⟨o2, c2⟩
  have B2 : RowKit.Below w.heap.size w v2 := B1.trans (c2.mono B1.size)
  have r2 := r1.up c2
  have z2 : Fw.sees Try.prog (.ld (.c (.pointer (some ⟨b, 1, none⟩)))) v2 (.pointer none) = True := r2.sees (o := 1) (by simp) Try.prog
  have o1 := o1.up c2
  simp only [ES, List.mem_cons, List.not_mem_nil, implies_true, forall_const, WS, List.getElem_cons_zero, List.getElem_cons_succ, Option.isNone_some, Option.isNone_none, List.getD_cons_zero, List.getD_cons_succ, I.at, atL, atO, atP, evp, evs, retV, ↓reduceIte, Nat.reduceEqDiff, reduceCtorEq, z2]
  refine E_call0 ((nil_Add_w v2 a1 a2).mono ?_)
  rintro _ w9 ⟨rfl, rfl⟩
  simp only [ES, List.mem_cons, List.not_mem_nil, implies_true, forall_const, WS, List.getElem_cons_zero, List.getElem_cons_succ, Option.isNone_some, Option.isNone_none, List.getD_cons_zero, List.getD_cons_succ, I.at, atL, atO, atP, evp, evs, retV, ↓reduceIte, Nat.reduceEqDiff, reduceCtorEq]
  exact ⟨B2, Sl.nil _⟩
theorem nilR_derivative_w (w : World) (s1 : Value) (L1 : List (El 16)) (h1 : Sl w s1 L1) (b1 : L1.length ≤ 70368744175616) : CallV Try.prog 18 [.agg #[.pointer none, .pointer none], .bool true, s1] w fun v w' => RowKit.Below w.heap.size w w' ∧ Sl w' v ([] : List (El 16)) := by
  refine run_culletlaw04_Rings_derivative (by simp) ?_
  simp only [c_culletlaw04_Rings_derivative, WS, List.getElem_cons_zero, List.getElem_cons_succ, Option.isNone_some, Option.isNone_none, List.getD_cons_zero, List.getD_cons_succ, I.at, atL, atO, atP, evp, evs, retV, ↓reduceIte, Nat.reduceEqDiff, reduceCtorEq]
  refine X_box fun b w1 hr hlb hB1 => ?_
  have hr : Row w1 b [.pointer none, .pointer none] := hr
  simp only [WS, List.getElem_cons_zero, List.getElem_cons_succ, Option.isNone_some, Option.isNone_none, List.getD_cons_zero, List.getD_cons_succ, I.at, atL, atO, atP, evp, evs, retV, ↓reduceIte, Nat.reduceEqDiff, reduceCtorEq]
  refine WP_dops ?_
  have r0 := hr.drew
  have B0 : RowKit.Below w.heap.size w w1.drew := hB1.trans ((bel_drew w1).mono hB1.size)
  simp only [ES, List.mem_cons, List.not_mem_nil, implies_true, forall_const, WS, List.getElem_cons_zero, List.getElem_cons_succ, Option.isNone_some, Option.isNone_none, List.getD_cons_zero, List.getD_cons_succ, I.at, atL, atO, atP, evp, evs, retV, ↓reduceIte, Nat.reduceEqDiff, reduceCtorEq, addr_add0, Nat.add_zero, Nat.zero_add, r0.Eld (show 1 < [Value.pointer none, Value.pointer none].length by simp)]
  refine E_call0 ((culletlaw04_twin_spec w1.drew s1 L1 (h1.up B0) b1).mono ?_)
  rintro a1 v1 ⟨o1, c1⟩
  have B1 : RowKit.Below w.heap.size w v1 := B0.trans (c1.mono B0.size)
  have r1 := r0.up c1
  have z1 : Fw.sees Try.prog (.ld (.c (.pointer (some ⟨b, 1, none⟩)))) v1 (.pointer none) = True := r1.sees (o := 1) (by simp) Try.prog
  simp only [ES, List.mem_cons, List.not_mem_nil, implies_true, forall_const, WS, List.getElem_cons_zero, List.getElem_cons_succ, Option.isNone_some, Option.isNone_none, List.getD_cons_zero, List.getD_cons_succ, I.at, atL, atO, atP, evp, evs, retV, ↓reduceIte, Nat.reduceEqDiff, reduceCtorEq, z1]
  refine E_call0 ((nil_Derivative_w v1 a1).mono ?_)
  rintro _ w9 ⟨rfl, rfl⟩
  simp only [ES, List.mem_cons, List.not_mem_nil, implies_true, forall_const, WS, List.getElem_cons_zero, List.getElem_cons_succ, Option.isNone_some, Option.isNone_none, List.getD_cons_zero, List.getD_cons_succ, I.at, atL, atO, atP, evp, evs, retV, ↓reduceIte, Nat.reduceEqDiff, reduceCtorEq]
  exact ⟨B1, Sl.nil _⟩
theorem nilR_mul_b (w : World) (s1 : Value) (L1 : List (El 16)) (h1 : Sl w s1 L1) (b1 : L1.length ≤ 70368744175616) (s2 : Value) (L2 : List (El 16)) (h2 : Sl w s2 L2) (b2 : L2.length ≤ 70368744175616) : CallV Try.prog 13 [.agg #[.pointer none, .pointer none], .bool false, s1, s2] w fun v w' => RowKit.Below w.heap.size w w' ∧ ∃ z0, v = .tuple #[z0, .int .i64 1] ∧ Sl w' z0 ([] : List (El 16)) := by
  refine run_culletlaw04_Rings_mul (by simp) ?_
  simp only [c_culletlaw04_Rings_mul, WS, List.getElem_cons_zero, List.getElem_cons_succ, Option.isNone_some, Option.isNone_none, List.getD_cons_zero, List.getD_cons_succ, I.at, atL, atO, atP, evp, evs, retV, ↓reduceIte, Nat.reduceEqDiff, reduceCtorEq]
  refine X_box fun b w1 hr hlb hB1 => ?_
  have hr : Row w1 b [.pointer none, .pointer none] := hr
  simp only [WS, List.getElem_cons_zero, List.getElem_cons_succ, Option.isNone_some, Option.isNone_none, List.getD_cons_zero, List.getD_cons_succ, I.at, atL, atO, atP, evp, evs, retV, ↓reduceIte, Nat.reduceEqDiff, reduceCtorEq]
  refine WP_dops ?_
  have r0 := hr.drew
  have B0 : RowKit.Below w.heap.size w w1.drew := hB1.trans ((bel_drew w1).mono hB1.size)
  simp only [ES, List.mem_cons, List.not_mem_nil, implies_true, forall_const, WS, List.getElem_cons_zero, List.getElem_cons_succ, Option.isNone_some, Option.isNone_none, List.getD_cons_zero, List.getD_cons_succ, I.at, atL, atO, atP, evp, evs, retV, ↓reduceIte, Nat.reduceEqDiff, reduceCtorEq, addr_add0, Nat.add_zero, Nat.zero_add, r0.Eld (show 0 < [Value.pointer none, Value.pointer none].length by simp)]
  refine E_call0 ((culletlaw04_low_spec w1.drew s1 L1 (h1.up B0) b1).mono ?_)
  rintro a1 v1 ⟨o1, c1⟩
  have B1 : RowKit.Below w.heap.size w v1 := B0.trans (c1.mono B0.size)
  have r1 := r0.up c1
  have z1 : Fw.sees Try.prog (.ld (.c (.pointer (some ⟨b, 0, none⟩)))) v1 (.pointer none) = True := r1.sees (o := 0) (by simp) Try.prog
  simp only [ES, List.mem_cons, List.not_mem_nil, implies_true, forall_const, WS, List.getElem_cons_zero, List.getElem_cons_succ, Option.isNone_some, Option.isNone_none, List.getD_cons_zero, List.getD_cons_succ, I.at, atL, atO, atP, evp, evs, retV, ↓reduceIte, Nat.reduceEqDiff, reduceCtorEq, z1]
  refine E_call0 ((culletlaw04_low_spec v1 s2 L2 (h2.up B1) b2).mono ?_)
  rintro a2 v2 ⟨o2, c2⟩
  have B2 : RowKit.Below w.heap.size w v2 := B1.trans (c2.mono B1.size)
  have r2 := r1.up c2
  have z2 : Fw.sees Try.prog (.ld (.c (.pointer (some ⟨b, 0, none⟩)))) v2 (.pointer none) = True := r2.sees (o := 0) (by simp) Try.prog
  have o1 := o1.up c2
  simp only [ES, List.mem_cons, List.not_mem_nil, implies_true, forall_const, WS, List.getElem_cons_zero, List.getElem_cons_succ, Option.isNone_some, Option.isNone_none, List.getD_cons_zero, List.getD_cons_succ, I.at, atL, atO, atP, evp, evs, retV, ↓reduceIte, Nat.reduceEqDiff, reduceCtorEq, z2]
  refine E_call0 ((nil_Mul_b v2 a1 a2 _ _ o1.sl o2.sl).mono ?_)
  rintro _ w9 ⟨B9, rfl⟩
  have B9 := B2.trans (B9.mono B2.size)
  simp only [ES, List.mem_cons, List.not_mem_nil, implies_true, forall_const, WS, List.getElem_cons_zero, List.getElem_cons_succ, Option.isNone_some, Option.isNone_none, List.getD_cons_zero, List.getD_cons_succ, I.at, atL, atO, atP, evp, evs, retV, ↓reduceIte, Nat.reduceEqDiff, reduceCtorEq]
  refine X_call0 ((culletlaw04_up_spec w9 _ ([] : List (El 8)) (Sl.nil w9) (by simp)).mono ?_)
  rintro y0 u0 ⟨p0, hB⟩
  have B9 := B9.trans (hB.mono B9.size)
  have p0 := p0.sl
  clear hB
  simp only [WS, List.getElem_cons_zero, List.getElem_cons_succ, Option.isNone_some, Option.isNone_none, List.getD_cons_zero, List.getD_cons_succ, I.at, atL, atO, atP, evp, evs, retV, ↓reduceIte, Nat.reduceEqDiff, reduceCtorEq]
  exact ⟨B9, y0, rfl, p0⟩
theorem nilR_divMod_b (w : World) (s1 : Value) (L1 : List (El 16)) (h1 : Sl w s1 L1) (b1 : L1.length ≤ 70368744175616) (s2 : Value) (L2 : List (El 16)) (h2 : Sl w s2 L2) (b2 : L2.length ≤ 70368744175616) : CallV Try.prog 26 [.agg #[.pointer none, .pointer none], .bool false, s1, s2] w fun v w' => RowKit.Below w.heap.size w w' ∧ ∃ z0 z1, v = .tuple #[z0, z1, .int .i64 1] ∧ Sl w' z0 ([] : List (El 16)) ∧ Sl w' z1 ([] : List (El 16)) := by
  refine run_culletlaw04_Rings_divMod (by simp) ?_
  simp only [c_culletlaw04_Rings_divMod, WS, List.getElem_cons_zero, List.getElem_cons_succ, Option.isNone_some, Option.isNone_none, List.getD_cons_zero, List.getD_cons_succ, I.at, atL, atO, atP, evp, evs, retV, ↓reduceIte, Nat.reduceEqDiff, reduceCtorEq]
  refine X_box fun b w1 hr hlb hB1 => ?_
  have hr : Row w1 b [.pointer none, .pointer none] := hr
  simp only [WS, List.getElem_cons_zero, List.getElem_cons_succ, Option.isNone_some, Option.isNone_none, List.getD_cons_zero, List.getD_cons_succ, I.at, atL, atO, atP, evp, evs, retV, ↓reduceIte, Nat.reduceEqDiff, reduceCtorEq]
  refine WP_dops ?_
  have r0 := hr.drew
  have B0 : RowKit.Below w.heap.size w w1.drew := hB1.trans ((bel_drew w1).mono hB1.size)
  simp only [ES, List.mem_cons, List.not_mem_nil, implies_true, forall_const, WS, List.getElem_cons_zero, List.getElem_cons_succ, Option.isNone_some, Option.isNone_none, List.getD_cons_zero, List.getD_cons_succ, I.at, atL, atO, atP, evp, evs, retV, ↓reduceIte, Nat.reduceEqDiff, reduceCtorEq, addr_add0, Nat.add_zero, Nat.zero_add, r0.Eld (show 0 < [Value.pointer none, Value.pointer none].length by simp)]
  refine E_call0 ((culletlaw04_low_spec w1.drew s1 L1 (h1.up B0) b1).mono ?_)
  rintro a1 v1 ⟨o1, c1⟩
  have B1 : RowKit.Below w.heap.size w v1 := B0.trans (c1.mono B0.size)
  have r1 := r0.up c1
  have z1 : Fw.sees Try.prog (.ld (.c (.pointer (some ⟨b, 0, none⟩)))) v1 (.pointer none) = True := r1.sees (o := 0) (by simp) Try.prog
  simp only [ES, List.mem_cons, List.not_mem_nil, implies_true, forall_const, WS, List.getElem_cons_zero, List.getElem_cons_succ, Option.isNone_some, Option.isNone_none, List.getD_cons_zero, List.getD_cons_succ, I.at, atL, atO, atP, evp, evs, retV, ↓reduceIte, Nat.reduceEqDiff, reduceCtorEq, z1]
  refine E_call0 ((culletlaw04_low_spec v1 s2 L2 (h2.up B1) b2).mono ?_)
  rintro a2 v2 ⟨o2, c2⟩
  have B2 : RowKit.Below w.heap.size w v2 := B1.trans (c2.mono B1.size)
  have r2 := r1.up c2
  have z2 : Fw.sees Try.prog (.ld (.c (.pointer (some ⟨b, 0, none⟩)))) v2 (.pointer none) = True := r2.sees (o := 0) (by simp) Try.prog
  have o1 := o1.up c2
  simp only [ES, List.mem_cons, List.not_mem_nil, implies_true, forall_const, WS, List.getElem_cons_zero, List.getElem_cons_succ, Option.isNone_some, Option.isNone_none, List.getD_cons_zero, List.getD_cons_succ, I.at, atL, atO, atP, evp, evs, retV, ↓reduceIte, Nat.reduceEqDiff, reduceCtorEq, z2]
  refine E_call0 ((nil_DivMod_b v2 a1 a2 _ _ o1.sl o2.sl).mono ?_)
  rintro _ w9 ⟨B9, rfl⟩
  have B9 := B2.trans (B9.mono B2.size)
  simp only [ES, List.mem_cons, List.not_mem_nil, implies_true, forall_const, WS, List.getElem_cons_zero, List.getElem_cons_succ, Option.isNone_some, Option.isNone_none, List.getD_cons_zero, List.getD_cons_succ, I.at, atL, atO, atP, evp, evs, retV, ↓reduceIte, Nat.reduceEqDiff, reduceCtorEq]
  refine X_call0 ((culletlaw04_up_spec w9 _ ([] : List (El 8)) (Sl.nil w9) (by simp)).mono ?_)
  rintro y0 u0 ⟨p0, hB⟩
  have B9 := B9.trans (hB.mono B9.size)
  have p0 := p0.sl
  clear hB
  simp only [WS, List.getElem_cons_zero, List.getElem_cons_succ, Option.isNone_some, Option.isNone_none, List.getD_cons_zero, List.getD_cons_succ, I.at, atL, atO, atP, evp, evs, retV, ↓reduceIte, Nat.reduceEqDiff, reduceCtorEq]
  refine X_call0 ((culletlaw04_up_spec u0 _ ([] : List (El 8)) (Sl.nil u0) (by simp)).mono ?_)
  rintro y1 u1 ⟨p1, hB⟩
  have B9 := B9.trans (hB.mono B9.size)
  have p1 := p1.sl
  have p0 := p0.up hB
  clear hB
  simp only [WS, List.getElem_cons_zero, List.getElem_cons_succ, Option.isNone_some, Option.isNone_none, List.getD_cons_zero, List.getD_cons_succ, I.at, atL, atO, atP, evp, evs, retV, ↓reduceIte, Nat.reduceEqDiff, reduceCtorEq]
  exact ⟨B9, y0, y1, rfl, p0, p1⟩
theorem nilR_gcd_b (w : World) (s1 : Value) (L1 : List (El 16)) (h1 : Sl w s1 L1) (b1 : L1.length ≤ 70368744175616) (s2 : Value) (L2 : List (El 16)) (h2 : Sl w s2 L2) (b2 : L2.length ≤ 70368744175616) : CallV Try.prog 29 [.agg #[.pointer none, .pointer none], .bool false, s1, s2] w fun v w' => RowKit.Below w.heap.size w w' ∧ ∃ z0, v = .tuple #[z0, .int .i64 1] ∧ Sl w' z0 ([] : List (El 16)) := by
  refine run_culletlaw04_Rings_gcd (by simp) ?_
  simp only [c_culletlaw04_Rings_gcd, WS, List.getElem_cons_zero, List.getElem_cons_succ, Option.isNone_some, Option.isNone_none, List.getD_cons_zero, List.getD_cons_succ, I.at, atL, atO, atP, evp, evs, retV, ↓reduceIte, Nat.reduceEqDiff, reduceCtorEq]
  refine X_box fun b w1 hr hlb hB1 => ?_
  have hr : Row w1 b [.pointer none, .pointer none] := hr
  simp only [WS, List.getElem_cons_zero, List.getElem_cons_succ, Option.isNone_some, Option.isNone_none, List.getD_cons_zero, List.getD_cons_succ, I.at, atL, atO, atP, evp, evs, retV, ↓reduceIte, Nat.reduceEqDiff, reduceCtorEq]
  refine WP_dops ?_
  have r0 := hr.drew
  have B0 : RowKit.Below w.heap.size w w1.drew := hB1.trans ((bel_drew w1).mono hB1.size)
  simp only [ES, List.mem_cons, List.not_mem_nil, implies_true, forall_const, WS, List.getElem_cons_zero, List.getElem_cons_succ, Option.isNone_some, Option.isNone_none, List.getD_cons_zero, List.getD_cons_succ, I.at, atL, atO, atP, evp, evs, retV, ↓reduceIte, Nat.reduceEqDiff, reduceCtorEq, addr_add0, Nat.add_zero, Nat.zero_add, r0.Eld (show 0 < [Value.pointer none, Value.pointer none].length by simp)]
  refine E_call0 ((culletlaw04_low_spec w1.drew s1 L1 (h1.up B0) b1).mono ?_)
  rintro a1 v1 ⟨o1, c1⟩
  have B1 : RowKit.Below w.heap.size w v1 := B0.trans (c1.mono B0.size)
  have r1 := r0.up c1
  have z1 : Fw.sees Try.prog (.ld (.c (.pointer (some ⟨b, 0, none⟩)))) v1 (.pointer none) = True := r1.sees (o := 0) (by simp) Try.prog
  simp only [ES, List.mem_cons, List.not_mem_nil, implies_true, forall_const, WS, List.getElem_cons_zero, List.getElem_cons_succ, Option.isNone_some, Option.isNone_none, List.getD_cons_zero, List.getD_cons_succ, I.at, atL, atO, atP, evp, evs, retV, ↓reduceIte, Nat.reduceEqDiff, reduceCtorEq, z1]
  refine E_call0 ((culletlaw04_low_spec v1 s2 L2 (h2.up B1) b2).mono ?_)
  rintro a2 v2 ⟨o2, c2⟩
  have B2 : RowKit.Below w.heap.size w v2 := B1.trans (c2.mono B1.size)
  have r2 := r1.up c2
  have z2 : Fw.sees Try.prog (.ld (.c (.pointer (some ⟨b, 0, none⟩)))) v2 (.pointer none) = True := r2.sees (o := 0) (by simp) Try.prog
  have o1 := o1.up c2
  simp only [ES, List.mem_cons, List.not_mem_nil, implies_true, forall_const, WS, List.getElem_cons_zero, List.getElem_cons_succ, Option.isNone_some, Option.isNone_none, List.getD_cons_zero, List.getD_cons_succ, I.at, atL, atO, atP, evp, evs, retV, ↓reduceIte, Nat.reduceEqDiff, reduceCtorEq, z2]
  refine E_call0 ((nil_Gcd_b v2 a1 a2 _ _ o1.sl o2.sl).mono ?_)
  rintro _ w9 ⟨B9, rfl⟩
  have B9 := B2.trans (B9.mono B2.size)
  simp only [ES, List.mem_cons, List.not_mem_nil, implies_true, forall_const, WS, List.getElem_cons_zero, List.getElem_cons_succ, Option.isNone_some, Option.isNone_none, List.getD_cons_zero, List.getD_cons_succ, I.at, atL, atO, atP, evp, evs, retV, ↓reduceIte, Nat.reduceEqDiff, reduceCtorEq]
  refine X_call0 ((culletlaw04_up_spec w9 _ ([] : List (El 8)) (Sl.nil w9) (by simp)).mono ?_)
  rintro y0 u0 ⟨p0, hB⟩
  have B9 := B9.trans (hB.mono B9.size)
  have p0 := p0.sl
  clear hB
  simp only [WS, List.getElem_cons_zero, List.getElem_cons_succ, Option.isNone_some, Option.isNone_none, List.getD_cons_zero, List.getD_cons_succ, I.at, atL, atO, atP, evp, evs, retV, ↓reduceIte, Nat.reduceEqDiff, reduceCtorEq]
  exact ⟨B9, y0, rfl, p0⟩
theorem nilR_vanishing_b (w : World) (s1 : Value) (L1 : List (El 16)) (h1 : Sl w s1 L1) (b1 : L1.length ≤ 70368744175616) : CallV Try.prog 14 [.agg #[.pointer none, .pointer none], .bool false, s1] w fun v w' => RowKit.Below w.heap.size w w' ∧ ∃ z0, v = .tuple #[z0, .int .i64 1] ∧ Sl w' z0 ([] : List (El 16)) := by
  refine run_culletlaw04_Rings_vanishing (by simp) ?_
  simp only [c_culletlaw04_Rings_vanishing, WS, List.getElem_cons_zero, List.getElem_cons_succ, Option.isNone_some, Option.isNone_none, List.getD_cons_zero, List.getD_cons_succ, I.at, atL, atO, atP, evp, evs, retV, ↓reduceIte, Nat.reduceEqDiff, reduceCtorEq]
  refine X_box fun b w1 hr hlb hB1 => ?_
  have hr : Row w1 b [.pointer none, .pointer none] := hr
  simp only [WS, List.getElem_cons_zero, List.getElem_cons_succ, Option.isNone_some, Option.isNone_none, List.getD_cons_zero, List.getD_cons_succ, I.at, atL, atO, atP, evp, evs, retV, ↓reduceIte, Nat.reduceEqDiff, reduceCtorEq]
  refine WP_dops ?_
  have r0 := hr.drew
  have B0 : RowKit.Below w.heap.size w w1.drew := hB1.trans ((bel_drew w1).mono hB1.size)
  simp only [ES, List.mem_cons, List.not_mem_nil, implies_true, forall_const, WS, List.getElem_cons_zero, List.getElem_cons_succ, Option.isNone_some, Option.isNone_none, List.getD_cons_zero, List.getD_cons_succ, I.at, atL, atO, atP, evp, evs, retV, ↓reduceIte, Nat.reduceEqDiff, reduceCtorEq, addr_add0, Nat.add_zero, Nat.zero_add, r0.Eld (show 0 < [Value.pointer none, Value.pointer none].length by simp)]
  refine E_call0 ((culletlaw04_low_spec w1.drew s1 L1 (h1.up B0) b1).mono ?_)
  rintro a1 v1 ⟨o1, c1⟩
  have B1 : RowKit.Below w.heap.size w v1 := B0.trans (c1.mono B0.size)
  have r1 := r0.up c1
  have z1 : Fw.sees Try.prog (.ld (.c (.pointer (some ⟨b, 0, none⟩)))) v1 (.pointer none) = True := r1.sees (o := 0) (by simp) Try.prog
  simp only [ES, List.mem_cons, List.not_mem_nil, implies_true, forall_const, WS, List.getElem_cons_zero, List.getElem_cons_succ, Option.isNone_some, Option.isNone_none, List.getD_cons_zero, List.getD_cons_succ, I.at, atL, atO, atP, evp, evs, retV, ↓reduceIte, Nat.reduceEqDiff, reduceCtorEq, z1]
  refine E_call0 ((nil_Vanishing_b v1 a1 _ o1.sl).mono ?_)
  rintro _ w9 ⟨B9, rfl⟩
  have B9 := B1.trans (B9.mono B1.size)
  simp only [ES, List.mem_cons, List.not_mem_nil, implies_true, forall_const, WS, List.getElem_cons_zero, List.getElem_cons_succ, Option.isNone_some, Option.isNone_none, List.getD_cons_zero, List.getD_cons_succ, I.at, atL, atO, atP, evp, evs, retV, ↓reduceIte, Nat.reduceEqDiff, reduceCtorEq]
  refine X_call0 ((culletlaw04_up_spec w9 _ ([] : List (El 8)) (Sl.nil w9) (by simp)).mono ?_)
  rintro y0 u0 ⟨p0, hB⟩
  have B9 := B9.trans (hB.mono B9.size)
  have p0 := p0.sl
  clear hB
  simp only [WS, List.getElem_cons_zero, List.getElem_cons_succ, Option.isNone_some, Option.isNone_none, List.getD_cons_zero, List.getD_cons_succ, I.at, atL, atO, atP, evp, evs, retV, ↓reduceIte, Nat.reduceEqDiff, reduceCtorEq]
  exact ⟨B9, y0, rfl, p0⟩
theorem nilR_interpolate_b (w : World) (s1 : Value) (L1 : List (El 16)) (h1 : Sl w s1 L1) (b1 : L1.length ≤ 70368744175616) (s2 : Value) (L2 : List (El 16)) (h2 : Sl w s2 L2) (b2 : L2.length ≤ 70368744175616) : CallV Try.prog 20 [.agg #[.pointer none, .pointer none], .bool false, s1, s2] w fun v w' => RowKit.Below w.heap.size w w' ∧ ∃ z0, v = .tuple #[z0, .int .i64 1] ∧ Sl w' z0 ([] : List (El 16)) := by
  refine run_culletlaw04_Rings_interpolate (by simp) ?_
  simp only [c_culletlaw04_Rings_interpolate, WS, List.getElem_cons_zero, List.getElem_cons_succ, Option.isNone_some, Option.isNone_none, List.getD_cons_zero, List.getD_cons_succ, I.at, atL, atO, atP, evp, evs, retV, ↓reduceIte, Nat.reduceEqDiff, reduceCtorEq]
  refine X_box fun b w1 hr hlb hB1 => ?_
  have hr : Row w1 b [.pointer none, .pointer none] := hr
  simp only [WS, List.getElem_cons_zero, List.getElem_cons_succ, Option.isNone_some, Option.isNone_none, List.getD_cons_zero, List.getD_cons_succ, I.at, atL, atO, atP, evp, evs, retV, ↓reduceIte, Nat.reduceEqDiff, reduceCtorEq]
  refine WP_dops ?_
  have r0 := hr.drew
  have B0 : RowKit.Below w.heap.size w w1.drew := hB1.trans ((bel_drew w1).mono hB1.size)
  simp only [ES, List.mem_cons, List.not_mem_nil, implies_true, forall_const, WS, List.getElem_cons_zero, List.getElem_cons_succ, Option.isNone_some, Option.isNone_none, List.getD_cons_zero, List.getD_cons_succ, I.at, atL, atO, atP, evp, evs, retV, ↓reduceIte, Nat.reduceEqDiff, reduceCtorEq, addr_add0, Nat.add_zero, Nat.zero_add, r0.Eld (show 0 < [Value.pointer none, Value.pointer none].length by simp)]
  refine E_call0 ((culletlaw04_low_spec w1.drew s1 L1 (h1.up B0) b1).mono ?_)
  rintro a1 v1 ⟨o1, c1⟩
  have B1 : RowKit.Below w.heap.size w v1 := B0.trans (c1.mono B0.size)
  have r1 := r0.up c1
  have z1 : Fw.sees Try.prog (.ld (.c (.pointer (some ⟨b, 0, none⟩)))) v1 (.pointer none) = True := r1.sees (o := 0) (by simp) Try.prog
  simp only [ES, List.mem_cons, List.not_mem_nil, implies_true, forall_const, WS, List.getElem_cons_zero, List.getElem_cons_succ, Option.isNone_some, Option.isNone_none, List.getD_cons_zero, List.getD_cons_succ, I.at, atL, atO, atP, evp, evs, retV, ↓reduceIte, Nat.reduceEqDiff, reduceCtorEq, z1]
  refine E_call0 ((culletlaw04_low_spec v1 s2 L2 (h2.up B1) b2).mono ?_)
  rintro a2 v2 ⟨o2, c2⟩
  have B2 : RowKit.Below w.heap.size w v2 := B1.trans (c2.mono B1.size)
  have r2 := r1.up c2
  have z2 : Fw.sees Try.prog (.ld (.c (.pointer (some ⟨b, 0, none⟩)))) v2 (.pointer none) = True := r2.sees (o := 0) (by simp) Try.prog
  have o1 := o1.up c2
  simp only [ES, List.mem_cons, List.not_mem_nil, implies_true, forall_const, WS, List.getElem_cons_zero, List.getElem_cons_succ, Option.isNone_some, Option.isNone_none, List.getD_cons_zero, List.getD_cons_succ, I.at, atL, atO, atP, evp, evs, retV, ↓reduceIte, Nat.reduceEqDiff, reduceCtorEq, z2]
  refine E_call0 ((nil_Interpolate_b v2 a1 a2 _ _ o1.sl o2.sl).mono ?_)
  rintro _ w9 ⟨B9, rfl⟩
  have B9 := B2.trans (B9.mono B2.size)
  simp only [ES, List.mem_cons, List.not_mem_nil, implies_true, forall_const, WS, List.getElem_cons_zero, List.getElem_cons_succ, Option.isNone_some, Option.isNone_none, List.getD_cons_zero, List.getD_cons_succ, I.at, atL, atO, atP, evp, evs, retV, ↓reduceIte, Nat.reduceEqDiff, reduceCtorEq]
  refine X_call0 ((culletlaw04_up_spec w9 _ ([] : List (El 8)) (Sl.nil w9) (by simp)).mono ?_)
  rintro y0 u0 ⟨p0, hB⟩
  have B9 := B9.trans (hB.mono B9.size)
  have p0 := p0.sl
  clear hB
  simp only [WS, List.getElem_cons_zero, List.getElem_cons_succ, Option.isNone_some, Option.isNone_none, List.getD_cons_zero, List.getD_cons_succ, I.at, atL, atO, atP, evp, evs, retV, ↓reduceIte, Nat.reduceEqDiff, reduceCtorEq]
  exact ⟨B9, y0, rfl, p0⟩
theorem nilR_partial_b (w : World) (s1 : Value) (L1 : List (El 16)) (h1 : Sl w s1 L1) (b1 : L1.length ≤ 70368744175616) (s2 : Value) (L2 : List (El 16)) (h2 : Sl w s2 L2) (b2 : L2.length ≤ 70368744175616) (d : Int) : CallV Try.prog 28 [.agg #[.pointer none, .pointer none], .bool false, s1, s2, .int .i64 d] w fun v w' => RowKit.Below w.heap.size w w' ∧ ∃ z0 z1 z2, v = .tuple #[z0, z1, z2, .int .i64 1] ∧ Sl w' z0 ([] : List (El 16)) ∧ Sl w' z1 ([] : List (El 16)) ∧ Sl w' z2 ([] : List (El 16)) := by
  refine run_culletlaw04_Rings_partial (by simp) ?_
  simp only [c_culletlaw04_Rings_partial, WS, List.getElem_cons_zero, List.getElem_cons_succ, Option.isNone_some, Option.isNone_none, List.getD_cons_zero, List.getD_cons_succ, I.at, atL, atO, atP, evp, evs, retV, ↓reduceIte, Nat.reduceEqDiff, reduceCtorEq]
  refine X_box fun b w1 hr hlb hB1 => ?_
  have hr : Row w1 b [.pointer none, .pointer none] := hr
  simp only [WS, List.getElem_cons_zero, List.getElem_cons_succ, Option.isNone_some, Option.isNone_none, List.getD_cons_zero, List.getD_cons_succ, I.at, atL, atO, atP, evp, evs, retV, ↓reduceIte, Nat.reduceEqDiff, reduceCtorEq]
  refine WP_dops ?_
  have r0 := hr.drew
  have B0 : RowKit.Below w.heap.size w w1.drew := hB1.trans ((bel_drew w1).mono hB1.size)
  simp only [ES, List.mem_cons, List.not_mem_nil, implies_true, forall_const, WS, List.getElem_cons_zero, List.getElem_cons_succ, Option.isNone_some, Option.isNone_none, List.getD_cons_zero, List.getD_cons_succ, I.at, atL, atO, atP, evp, evs, retV, ↓reduceIte, Nat.reduceEqDiff, reduceCtorEq, addr_add0, Nat.add_zero, Nat.zero_add, r0.Eld (show 0 < [Value.pointer none, Value.pointer none].length by simp)]
  refine E_call0 ((culletlaw04_low_spec w1.drew s1 L1 (h1.up B0) b1).mono ?_)
  rintro a1 v1 ⟨o1, c1⟩
  have B1 : RowKit.Below w.heap.size w v1 := B0.trans (c1.mono B0.size)
  have r1 := r0.up c1
  have z1 : Fw.sees Try.prog (.ld (.c (.pointer (some ⟨b, 0, none⟩)))) v1 (.pointer none) = True := r1.sees (o := 0) (by simp) Try.prog
  simp only [ES, List.mem_cons, List.not_mem_nil, implies_true, forall_const, WS, List.getElem_cons_zero, List.getElem_cons_succ, Option.isNone_some, Option.isNone_none, List.getD_cons_zero, List.getD_cons_succ, I.at, atL, atO, atP, evp, evs, retV, ↓reduceIte, Nat.reduceEqDiff, reduceCtorEq, z1]
  refine E_call0 ((culletlaw04_low_spec v1 s2 L2 (h2.up B1) b2).mono ?_)
  rintro a2 v2 ⟨o2, c2⟩
  have B2 : RowKit.Below w.heap.size w v2 := B1.trans (c2.mono B1.size)
  have r2 := r1.up c2
  have z2 : Fw.sees Try.prog (.ld (.c (.pointer (some ⟨b, 0, none⟩)))) v2 (.pointer none) = True := r2.sees (o := 0) (by simp) Try.prog
  have o1 := o1.up c2
  simp only [ES, List.mem_cons, List.not_mem_nil, implies_true, forall_const, WS, List.getElem_cons_zero, List.getElem_cons_succ, Option.isNone_some, Option.isNone_none, List.getD_cons_zero, List.getD_cons_succ, I.at, atL, atO, atP, evp, evs, retV, ↓reduceIte, Nat.reduceEqDiff, reduceCtorEq, z2]
  refine E_call0 ((nil_Partial_b v2 a1 a2 _ _ d o1.sl o2.sl).mono ?_)
  rintro _ w9 ⟨B9, rfl⟩
  have B9 := B2.trans (B9.mono B2.size)
  simp only [ES, List.mem_cons, List.not_mem_nil, implies_true, forall_const, WS, List.getElem_cons_zero, List.getElem_cons_succ, Option.isNone_some, Option.isNone_none, List.getD_cons_zero, List.getD_cons_succ, I.at, atL, atO, atP, evp, evs, retV, ↓reduceIte, Nat.reduceEqDiff, reduceCtorEq]
  refine X_call0 ((culletlaw04_up_spec w9 _ ([] : List (El 8)) (Sl.nil w9) (by simp)).mono ?_)
  rintro y0 u0 ⟨p0, hB⟩
  have B9 := B9.trans (hB.mono B9.size)
  have p0 := p0.sl
  clear hB
  simp only [WS, List.getElem_cons_zero, List.getElem_cons_succ, Option.isNone_some, Option.isNone_none, List.getD_cons_zero, List.getD_cons_succ, I.at, atL, atO, atP, evp, evs, retV, ↓reduceIte, Nat.reduceEqDiff, reduceCtorEq]
  refine X_call0 ((culletlaw04_up_spec u0 _ ([] : List (El 8)) (Sl.nil u0) (by simp)).mono ?_)
  rintro y1 u1 ⟨p1, hB⟩
  have B9 := B9.trans (hB.mono B9.size)
  have p1 := p1.sl
  have p0 := p0.up hB
  clear hB
  simp only [WS, List.getElem_cons_zero, List.getElem_cons_succ, Option.isNone_some, Option.isNone_none, List.getD_cons_zero, List.getD_cons_succ, I.at, atL, atO, atP, evp, evs, retV, ↓reduceIte, Nat.reduceEqDiff, reduceCtorEq]
  refine X_call0 ((culletlaw04_up_spec u1 _ ([] : List (El 8)) (Sl.nil u1) (by simp)).mono ?_)
  rintro y2 u2 ⟨p2, hB⟩
  have B9 := B9.trans (hB.mono B9.size)
  have p2 := p2.sl
  have p0 := p0.up hB
  have p1 := p1.up hB
  clear hB
  simp only [WS, List.getElem_cons_zero, List.getElem_cons_succ, Option.isNone_some, Option.isNone_none, List.getD_cons_zero, List.getD_cons_succ, I.at, atL, atO, atP, evp, evs, retV, ↓reduceIte, Nat.reduceEqDiff, reduceCtorEq]
  exact ⟨B9, y0, y1, y2, rfl, p0, p1, p2⟩
theorem nilR_degree_b (w : World) (s1 : Value) (L1 : List (El 16)) (h1 : Sl w s1 L1) (b1 : L1.length ≤ 70368744175616) : CallV Try.prog 30 [.agg #[.pointer none, .pointer none], .bool false, s1] w fun v w' => RowKit.Below w.heap.size w w' ∧ v = .int .i64 0 := by
  refine run_culletlaw04_Rings_degree (by simp) ?_
  simp only [c_culletlaw04_Rings_degree, WS, List.getElem_cons_zero, List.getElem_cons_succ, Option.isNone_some, Option.isNone_none, List.getD_cons_zero, List.getD_cons_succ, I.at, atL, atO, atP, evp, evs, retV, ↓reduceIte, Nat.reduceEqDiff, reduceCtorEq]
  refine X_box fun b w1 hr hlb hB1 => ?_
  have hr : Row w1 b [.pointer none, .pointer none] := hr
  simp only [WS, List.getElem_cons_zero, List.getElem_cons_succ, Option.isNone_some, Option.isNone_none, List.getD_cons_zero, List.getD_cons_succ, I.at, atL, atO, atP, evp, evs, retV, ↓reduceIte, Nat.reduceEqDiff, reduceCtorEq]
  refine WP_dops ?_
  have r0 := hr.drew
  have B0 : RowKit.Below w.heap.size w w1.drew := hB1.trans ((bel_drew w1).mono hB1.size)
  simp only [ES, List.mem_cons, List.not_mem_nil, implies_true, forall_const, WS, List.getElem_cons_zero, List.getElem_cons_succ, Option.isNone_some, Option.isNone_none, List.getD_cons_zero, List.getD_cons_succ, I.at, atL, atO, atP, evp, evs, retV, ↓reduceIte, Nat.reduceEqDiff, reduceCtorEq, addr_add0, Nat.add_zero, Nat.zero_add, r0.Eld (show 0 < [Value.pointer none, Value.pointer none].length by simp)]
  refine E_call0 ((culletlaw04_low_spec w1.drew s1 L1 (h1.up B0) b1).mono ?_)
  rintro a1 v1 ⟨o1, c1⟩
  have B1 : RowKit.Below w.heap.size w v1 := B0.trans (c1.mono B0.size)
  have r1 := r0.up c1
  have z1 : Fw.sees Try.prog (.ld (.c (.pointer (some ⟨b, 0, none⟩)))) v1 (.pointer none) = True := r1.sees (o := 0) (by simp) Try.prog
  simp only [ES, List.mem_cons, List.not_mem_nil, implies_true, forall_const, WS, List.getElem_cons_zero, List.getElem_cons_succ, Option.isNone_some, Option.isNone_none, List.getD_cons_zero, List.getD_cons_succ, I.at, atL, atO, atP, evp, evs, retV, ↓reduceIte, Nat.reduceEqDiff, reduceCtorEq, z1]
  refine E_call0 ((nil_Degree_b v1 a1).mono ?_)
  rintro _ w9 ⟨rfl, rfl⟩
  simp only [ES, List.mem_cons, List.not_mem_nil, implies_true, forall_const, WS, List.getElem_cons_zero, List.getElem_cons_succ, Option.isNone_some, Option.isNone_none, List.getD_cons_zero, List.getD_cons_succ, I.at, atL, atO, atP, evp, evs, retV, ↓reduceIte, Nat.reduceEqDiff, reduceCtorEq]
  exact B1
theorem nilR_eval_b (w : World) (s1 : Value) (L1 : List (El 16)) (h1 : Sl w s1 L1) (b1 : L1.length ≤ 70368744175616) : CallV Try.prog 25 [.agg #[.pointer none, .pointer none], .bool false, s1, .int .u16 3] w fun v w' => RowKit.Below w.heap.size w w' ∧ v = .int .u16 0 := by
  refine run_culletlaw04_Rings_eval (by simp) ?_
  simp only [c_culletlaw04_Rings_eval, WS, List.getElem_cons_zero, List.getElem_cons_succ, Option.isNone_some, Option.isNone_none, List.getD_cons_zero, List.getD_cons_succ, I.at, atL, atO, atP, evp, evs, retV, ↓reduceIte, Nat.reduceEqDiff, reduceCtorEq]
  refine X_box fun b w1 hr hlb hB1 => ?_
  have hr : Row w1 b [.pointer none, .pointer none] := hr
  simp only [WS, List.getElem_cons_zero, List.getElem_cons_succ, Option.isNone_some, Option.isNone_none, List.getD_cons_zero, List.getD_cons_succ, I.at, atL, atO, atP, evp, evs, retV, ↓reduceIte, Nat.reduceEqDiff, reduceCtorEq]
  refine WP_dops ?_
  have r0 := hr.drew
  have B0 : RowKit.Below w.heap.size w w1.drew := hB1.trans ((bel_drew w1).mono hB1.size)
  simp only [ES, List.mem_cons, List.not_mem_nil, implies_true, forall_const, WS, List.getElem_cons_zero, List.getElem_cons_succ, Option.isNone_some, Option.isNone_none, List.getD_cons_zero, List.getD_cons_succ, I.at, atL, atO, atP, evp, evs, retV, ↓reduceIte, Nat.reduceEqDiff, reduceCtorEq, addr_add0, Nat.add_zero, Nat.zero_add, r0.Eld (show 0 < [Value.pointer none, Value.pointer none].length by simp)]
  refine E_call0 ((culletlaw04_low_spec w1.drew s1 L1 (h1.up B0) b1).mono ?_)
  rintro a1 v1 ⟨o1, c1⟩
  have B1 : RowKit.Below w.heap.size w v1 := B0.trans (c1.mono B0.size)
  have r1 := r0.up c1
  have z1 : Fw.sees Try.prog (.ld (.c (.pointer (some ⟨b, 0, none⟩)))) v1 (.pointer none) = True := r1.sees (o := 0) (by simp) Try.prog
  simp only [ES, List.mem_cons, List.not_mem_nil, implies_true, forall_const, WS, List.getElem_cons_zero, List.getElem_cons_succ, Option.isNone_some, Option.isNone_none, List.getD_cons_zero, List.getD_cons_succ, I.at, atL, atO, atP, evp, evs, retV, ↓reduceIte, Nat.reduceEqDiff, reduceCtorEq, z1, show IntKind.u8.wrap 3 = 3 from rfl]
  refine E_call0 ((nil_Eval_b v1 a1 (.int .u8 3)).mono ?_)
  rintro _ w9 ⟨rfl, rfl⟩
  simp only [ES, List.mem_cons, List.not_mem_nil, implies_true, forall_const, WS, List.getElem_cons_zero, List.getElem_cons_succ, Option.isNone_some, Option.isNone_none, List.getD_cons_zero, List.getD_cons_succ, I.at, atL, atO, atP, evp, evs, retV, ↓reduceIte, Nat.reduceEqDiff, reduceCtorEq, show IntKind.u16.wrap 0 = 0 from rfl]
  exact B1
theorem nilR_trim_b (w : World) (s1 : Value) (L1 : List (El 16)) (h1 : Sl w s1 L1) (b1 : L1.length ≤ 70368744175616) : CallV Try.prog 22 [.agg #[.pointer none, .pointer none], .bool false, s1] w fun v w' => RowKit.Below w.heap.size w w' ∧ Sl w' v ([] : List (El 16)) := by
  refine run_culletlaw04_Rings_trim (by simp) ?_
  simp only [c_culletlaw04_Rings_trim, WS, List.getElem_cons_zero, List.getElem_cons_succ, Option.isNone_some, Option.isNone_none, List.getD_cons_zero, List.getD_cons_succ, I.at, atL, atO, atP, evp, evs, retV, ↓reduceIte, Nat.reduceEqDiff, reduceCtorEq]
  refine X_box fun b w1 hr hlb hB1 => ?_
  have hr : Row w1 b [.pointer none, .pointer none] := hr
  simp only [WS, List.getElem_cons_zero, List.getElem_cons_succ, Option.isNone_some, Option.isNone_none, List.getD_cons_zero, List.getD_cons_succ, I.at, atL, atO, atP, evp, evs, retV, ↓reduceIte, Nat.reduceEqDiff, reduceCtorEq]
  refine WP_dops ?_
  have r0 := hr.drew
  have B0 : RowKit.Below w.heap.size w w1.drew := hB1.trans ((bel_drew w1).mono hB1.size)
  simp only [ES, List.mem_cons, List.not_mem_nil, implies_true, forall_const, WS, List.getElem_cons_zero, List.getElem_cons_succ, Option.isNone_some, Option.isNone_none, List.getD_cons_zero, List.getD_cons_succ, I.at, atL, atO, atP, evp, evs, retV, ↓reduceIte, Nat.reduceEqDiff, reduceCtorEq, addr_add0, Nat.add_zero, Nat.zero_add, r0.Eld (show 0 < [Value.pointer none, Value.pointer none].length by simp)]
  refine E_call0 ((culletlaw04_low_spec w1.drew s1 L1 (h1.up B0) b1).mono ?_)
  rintro a1 v1 ⟨o1, c1⟩
  have B1 : RowKit.Below w.heap.size w v1 := B0.trans (c1.mono B0.size)
  have r1 := r0.up c1
  have z1 : Fw.sees Try.prog (.ld (.c (.pointer (some ⟨b, 0, none⟩)))) v1 (.pointer none) = True := r1.sees (o := 0) (by simp) Try.prog
  simp only [ES, List.mem_cons, List.not_mem_nil, implies_true, forall_const, WS, List.getElem_cons_zero, List.getElem_cons_succ, Option.isNone_some, Option.isNone_none, List.getD_cons_zero, List.getD_cons_succ, I.at, atL, atO, atP, evp, evs, retV, ↓reduceIte, Nat.reduceEqDiff, reduceCtorEq, z1]
  refine E_call0 ((nil_Trim_b v1 a1).mono ?_)
  rintro _ w9 ⟨rfl, rfl⟩
  simp only [ES, List.mem_cons, List.not_mem_nil, implies_true, forall_const, WS, List.getElem_cons_zero, List.getElem_cons_succ, Option.isNone_some, Option.isNone_none, List.getD_cons_zero, List.getD_cons_succ, I.at, atL, atO, atP, evp, evs, retV, ↓reduceIte, Nat.reduceEqDiff, reduceCtorEq]
  refine E_call0 ((culletlaw04_up_spec _ _ ([] : List (El 8)) (Sl.nil _) (by simp)).mono ?_)
  rintro y0 w10 ⟨p0, hB⟩
  simp only [ES, List.mem_cons, List.not_mem_nil, implies_true, forall_const, WS, List.getElem_cons_zero, List.getElem_cons_succ, Option.isNone_some, Option.isNone_none, List.getD_cons_zero, List.getD_cons_succ, I.at, atL, atO, atP, evp, evs, retV, ↓reduceIte, Nat.reduceEqDiff, reduceCtorEq]
  exact ⟨B1.trans (hB.mono B1.size), p0.sl⟩
theorem nilR_add_b (w : World) (s1 : Value) (L1 : List (El 16)) (h1 : Sl w s1 L1) (b1 : L1.length ≤ 70368744175616) (s2 : Value) (L2 : List (El 16)) (h2 : Sl w s2 L2) (b2 : L2.length ≤ 70368744175616) : CallV Try.prog 24 [.agg #[.pointer none, .pointer none], .bool false, s1, s2] w fun v w' => RowKit.Below w.heap.size w w' ∧ Sl w' v ([] : List (El 16)) := by
  refine run_culletlaw04_Rings_add (by simp) ?_
  simp only [c_culletlaw04_Rings_add, WS, List.getElem_cons_zero, List.getElem_cons_succ, Option.isNone_some, Option.isNone_none, List.getD_cons_zero, List.getD_cons_succ, I.at, atL, atO, atP, evp, evs, retV, ↓reduceIte, Nat.reduceEqDiff, reduceCtorEq]
  refine X_box fun b w1 hr hlb hB1 => ?_
  have hr : Row w1 b [.pointer none, .pointer none] := hr
  simp only [WS, List.getElem_cons_zero, List.getElem_cons_succ, Option.isNone_some, Option.isNone_none, List.getD_cons_zero, List.getD_cons_succ, I.at, atL, atO, atP, evp, evs, retV, ↓reduceIte, Nat.reduceEqDiff, reduceCtorEq]
  refine WP_dops ?_
  have r0 := hr.drew
  have B0 : RowKit.Below w.heap.size w w1.drew := hB1.trans ((bel_drew w1).mono hB1.size)
  simp only [ES, List.mem_cons, List.not_mem_nil, implies_true, forall_const, WS, List.getElem_cons_zero, List.getElem_cons_succ, Option.isNone_some, Option.isNone_none, List.getD_cons_zero, List.getD_cons_succ, I.at, atL, atO, atP, evp, evs, retV, ↓reduceIte, Nat.reduceEqDiff, reduceCtorEq, addr_add0, Nat.add_zero, Nat.zero_add, r0.Eld (show 0 < [Value.pointer none, Value.pointer none].length by simp)]
  refine E_call0 ((culletlaw04_low_spec w1.drew s1 L1 (h1.up B0) b1).mono ?_)
  rintro a1 v1 ⟨o1, c1⟩
  have B1 : RowKit.Below w.heap.size w v1 := B0.trans (c1.mono B0.size)
  have r1 := r0.up c1
  have z1 : Fw.sees Try.prog (.ld (.c (.pointer (some ⟨b, 0, none⟩)))) v1 (.pointer none) = True := r1.sees (o := 0) (by simp) Try.prog
  simp only [ES, List.mem_cons, List.not_mem_nil, implies_true, forall_const, WS, List.getElem_cons_zero, List.getElem_cons_succ, Option.isNone_some, Option.isNone_none, List.getD_cons_zero, List.getD_cons_succ, I.at, atL, atO, atP, evp, evs, retV, ↓reduceIte, Nat.reduceEqDiff, reduceCtorEq, z1]
  refine E_call0 ((culletlaw04_low_spec v1 s2 L2 (h2.up B1) b2).mono ?_)
  rintro a2 v2 ⟨o2, c2⟩
  have B2 : RowKit.Below w.heap.size w v2 := B1.trans (c2.mono B1.size)
  have r2 := r1.up c2
  have z2 : Fw.sees Try.prog (.ld (.c (.pointer (some ⟨b, 0, none⟩)))) v2 (.pointer none) = True := r2.sees (o := 0) (by simp) Try.prog
  have o1 := o1.up c2
  simp only [ES, List.mem_cons, List.not_mem_nil, implies_true, forall_const, WS, List.getElem_cons_zero, List.getElem_cons_succ, Option.isNone_some, Option.isNone_none, List.getD_cons_zero, List.getD_cons_succ, I.at, atL, atO, atP, evp, evs, retV, ↓reduceIte, Nat.reduceEqDiff, reduceCtorEq, z2]
  refine E_call0 ((nil_Add_b v2 a1 a2).mono ?_)
  rintro _ w9 ⟨rfl, rfl⟩
  simp only [ES, List.mem_cons, List.not_mem_nil, implies_true, forall_const, WS, List.getElem_cons_zero, List.getElem_cons_succ, Option.isNone_some, Option.isNone_none, List.getD_cons_zero, List.getD_cons_succ, I.at, atL, atO, atP, evp, evs, retV, ↓reduceIte, Nat.reduceEqDiff, reduceCtorEq]
  refine E_call0 ((culletlaw04_up_spec _ _ ([] : List (El 8)) (Sl.nil _) (by simp)).mono ?_)
  rintro y0 w10 ⟨p0, hB⟩
  simp only [ES, List.mem_cons, List.not_mem_nil, implies_true, forall_const, WS, List.getElem_cons_zero, List.getElem_cons_succ, Option.isNone_some, Option.isNone_none, List.getD_cons_zero, List.getD_cons_succ, I.at, atL, atO, atP, evp, evs, retV, ↓reduceIte, Nat.reduceEqDiff, reduceCtorEq]
  exact ⟨B2.trans (hB.mono B2.size), p0.sl⟩
theorem nilR_derivative_b (w : World) (s1 : Value) (L1 : List (El 16)) (h1 : Sl w s1 L1) (b1 : L1.length ≤ 70368744175616) : CallV Try.prog 18 [.agg #[.pointer none, .pointer none], .bool false, s1] w fun v w' => RowKit.Below w.heap.size w w' ∧ Sl w' v ([] : List (El 16)) := by
  refine run_culletlaw04_Rings_derivative (by simp) ?_
  simp only [c_culletlaw04_Rings_derivative, WS, List.getElem_cons_zero, List.getElem_cons_succ, Option.isNone_some, Option.isNone_none, List.getD_cons_zero, List.getD_cons_succ, I.at, atL, atO, atP, evp, evs, retV, ↓reduceIte, Nat.reduceEqDiff, reduceCtorEq]
  refine X_box fun b w1 hr hlb hB1 => ?_
  have hr : Row w1 b [.pointer none, .pointer none] := hr
  simp only [WS, List.getElem_cons_zero, List.getElem_cons_succ, Option.isNone_some, Option.isNone_none, List.getD_cons_zero, List.getD_cons_succ, I.at, atL, atO, atP, evp, evs, retV, ↓reduceIte, Nat.reduceEqDiff, reduceCtorEq]
  refine WP_dops ?_
  have r0 := hr.drew
  have B0 : RowKit.Below w.heap.size w w1.drew := hB1.trans ((bel_drew w1).mono hB1.size)
  simp only [ES, List.mem_cons, List.not_mem_nil, implies_true, forall_const, WS, List.getElem_cons_zero, List.getElem_cons_succ, Option.isNone_some, Option.isNone_none, List.getD_cons_zero, List.getD_cons_succ, I.at, atL, atO, atP, evp, evs, retV, ↓reduceIte, Nat.reduceEqDiff, reduceCtorEq, addr_add0, Nat.add_zero, Nat.zero_add, r0.Eld (show 0 < [Value.pointer none, Value.pointer none].length by simp)]
  refine E_call0 ((culletlaw04_low_spec w1.drew s1 L1 (h1.up B0) b1).mono ?_)
  rintro a1 v1 ⟨o1, c1⟩
  have B1 : RowKit.Below w.heap.size w v1 := B0.trans (c1.mono B0.size)
  have r1 := r0.up c1
  have z1 : Fw.sees Try.prog (.ld (.c (.pointer (some ⟨b, 0, none⟩)))) v1 (.pointer none) = True := r1.sees (o := 0) (by simp) Try.prog
  simp only [ES, List.mem_cons, List.not_mem_nil, implies_true, forall_const, WS, List.getElem_cons_zero, List.getElem_cons_succ, Option.isNone_some, Option.isNone_none, List.getD_cons_zero, List.getD_cons_succ, I.at, atL, atO, atP, evp, evs, retV, ↓reduceIte, Nat.reduceEqDiff, reduceCtorEq, z1]
  refine E_call0 ((nil_Derivative_b v1 a1).mono ?_)
  rintro _ w9 ⟨rfl, rfl⟩
  simp only [ES, List.mem_cons, List.not_mem_nil, implies_true, forall_const, WS, List.getElem_cons_zero, List.getElem_cons_succ, Option.isNone_some, Option.isNone_none, List.getD_cons_zero, List.getD_cons_succ, I.at, atL, atO, atP, evp, evs, retV, ↓reduceIte, Nat.reduceEqDiff, reduceCtorEq]
  refine E_call0 ((culletlaw04_up_spec _ _ ([] : List (El 8)) (Sl.nil _) (by simp)).mono ?_)
  rintro y0 w10 ⟨p0, hB⟩
  simp only [ES, List.mem_cons, List.not_mem_nil, implies_true, forall_const, WS, List.getElem_cons_zero, List.getElem_cons_succ, Option.isNone_some, Option.isNone_none, List.getD_cons_zero, List.getD_cons_succ, I.at, atL, atO, atP, evp, evs, retV, ↓reduceIte, Nat.reduceEqDiff, reduceCtorEq]
  exact ⟨B1.trans (hB.mono B1.size), p0.sl⟩
end Go.Proofs.Ytcdagkcchfibjaa.Fw
