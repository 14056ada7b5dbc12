import Derived.Test.YtcdagkcchfibjaaProg
import Derived.Test.YtcdagkcchfibjaaFwTM
import Derived.Test.YtcdagkcchfibjaaSPMcM
set_option linter.all false
set_option linter.unusedVariables false
set_option linter.unusedSimpArgs false
set_option maxRecDepth 100000
set_option maxHeartbeats 1000000
namespace Go.Proofs.Ytcdagkcchfibjaa.Fw
open Go Go.Fw Go.Proofs
attribute [local irreducible] stepI
def c_culletlaw04_calls16 : C := .seq (.ops [⟨0, (some 10), none, .mov (.c (.slice none 0 0)), []⟩]) (.seq (.seq (.ops [⟨0, (some 26), none, .mov (.t 1), []⟩]) (.block 0 (.seq (.ops [⟨0, (some 28), none, .bin .eql (.t 26) (.c (.int .i64 1)), []⟩, ⟨1, (some 27), none, .mov (.t 28), []⟩]) (.ite (.t 27) (.seq (.ops [⟨0, (some 29), none, .mov (.t 0), []⟩, ⟨1, (some 30), none, .mov (.t 2), []⟩, ⟨2, (some 31), none, .call (.c (.func (.func 49) #[] #[])) [.t 29, .t 30], []⟩, ⟨3, (some 32), none, .bsl 27 1 [.slice none 0 0] [(0, (1, .t 31))], []⟩, ⟨4, (some 10), none, .mov (.t 32), []⟩]) .ret) (.seq (.ops [⟨0, (some 34), none, .bin .eql (.t 26) (.c (.int .i64 2)), []⟩, ⟨1, (some 33), none, .mov (.t 34), []⟩]) (.ite (.t 33) (.seq (.ops [⟨0, (some 35), none, .mov (.t 0), []⟩, ⟨1, (some 36), none, .mov (.t 2), []⟩, ⟨2, (some 37), none, .mov (.t 3), []⟩, ⟨3, (some 38), none, .call (.c (.func (.func 51) #[] #[])) [.t 35, .t 36, .t 37], []⟩, ⟨4, (some 39), none, .bsl 27 1 [.slice none 0 0] [(0, (1, .t 38))], []⟩, ⟨5, (some 10), none, .mov (.t 39), []⟩]) .ret) (.seq (.ops [⟨0, (some 41), none, .bin .eql (.t 26) (.c (.int .i64 4)), []⟩, ⟨1, (some 40), none, .mov (.t 41), []⟩]) (.ite (.t 40) (.seq (.ops [⟨0, (some 42), none, .mov (.t 0), []⟩, ⟨1, (some 43), none, .mov (.t 2), []⟩, ⟨2, (some 44), none, .call (.c (.func (.func 44) #[] #[])) [.t 42, .t 43], []⟩, ⟨3, (some 45), none, .bsl 27 1 [.slice none 0 0] [(0, (1, .t 44))], []⟩, ⟨4, (some 10), none, .mov (.t 45), []⟩]) .ret) (.seq (.ops [⟨0, (some 47), none, .bin .eql (.t 26) (.c (.int .i64 5)), []⟩, ⟨1, (some 46), none, .mov (.t 47), []⟩]) (.ite (.t 46) (.seq (.ops [⟨0, (some 49), none, .mov (.t 0), []⟩, ⟨1, (some 50), none, .mov (.t 2), []⟩, ⟨2, (some 51), none, .mov (.t 3), []⟩, ⟨3, (some 52), none, .call (.c (.func (.func 37) #[] #[])) [.t 49, .t 50, .t 51], []⟩, ⟨4, (some 48), none, .mov (.t 52), []⟩, ⟨5, (some 53), none, .ext (.t 48) 0, []⟩, ⟨6, (some 54), none, .ext (.t 48) 1, []⟩, ⟨7, (some 11), none, .mov (.t 53), []⟩, ⟨8, (some 12), none, .mov (.t 54), []⟩]) (.seq (.ops [⟨0, (some 55), none, .mov (.t 11), []⟩, ⟨1, (some 56), none, .bsl 27 1 [.slice none 0 0] [(0, (1, .t 55))], []⟩, ⟨2, (some 10), none, .mov (.t 56), []⟩]) .ret)) (.seq (.ops [⟨0, (some 58), none, .bin .eql (.t 26) (.c (.int .i64 6)), []⟩, ⟨1, (some 57), none, .mov (.t 58), []⟩]) (.ite (.t 57) (.seq (.ops [⟨0, (some 60), none, .mov (.t 0), []⟩, ⟨1, (some 61), none, .mov (.t 2), []⟩, ⟨2, (some 62), none, .mov (.t 3), []⟩, ⟨3, (some 63), none, .call (.c (.func (.func 55) #[] #[])) [.t 60, .t 61, .t 62], []⟩, ⟨4, (some 59), none, .mov (.t 63), []⟩, ⟨5, (some 64), none, .ext (.t 59) 0, []⟩, ⟨6, (some 65), none, .ext (.t 59) 1, []⟩, ⟨7, (some 66), none, .ext (.t 59) 2, []⟩, ⟨8, (some 13), none, .mov (.t 64), []⟩, ⟨9, (some 14), none, .mov (.t 65), []⟩, ⟨10, (some 15), none, .mov (.t 66), []⟩]) (.seq (.ops [⟨0, (some 67), none, .mov (.t 13), []⟩, ⟨1, (some 68), none, .mov (.t 14), []⟩, ⟨2, (some 69), none, .bsl 27 2 [.slice none 0 0] [(0, (1, .t 67)), (1, (1, .t 68))], []⟩, ⟨3, (some 10), none, .mov (.t 69), []⟩]) .ret)) (.seq (.ops [⟨0, (some 71), none, .bin .eql (.t 26) (.c (.int .i64 7)), []⟩, ⟨1, (some 70), none, .mov (.t 71), []⟩]) (.ite (.t 70) (.seq (.ops [⟨0, (some 73), none, .mov (.t 0), []⟩, ⟨1, (some 74), none, .mov (.t 2), []⟩, ⟨2, (some 75), none, .mov (.t 3), []⟩, ⟨3, (some 76), none, .call (.c (.func (.func 59) #[] #[])) [.t 73, .t 74, .t 75], []⟩, ⟨4, (some 72), none, .mov (.t 76), []⟩, ⟨5, (some 77), none, .ext (.t 72) 0, []⟩, ⟨6, (some 78), none, .ext (.t 72) 1, []⟩, ⟨7, (some 16), none, .mov (.t 77), []⟩, ⟨8, (some 17), none, .mov (.t 78), []⟩]) (.seq (.ops [⟨0, (some 79), none, .mov (.t 16), []⟩, ⟨1, (some 80), none, .bsl 27 1 [.slice none 0 0] [(0, (1, .t 79))], []⟩, ⟨2, (some 10), none, .mov (.t 80), []⟩]) .ret)) (.seq (.ops [⟨0, (some 82), none, .bin .eql (.t 26) (.c (.int .i64 8)), []⟩, ⟨1, (some 81), none, .mov (.t 82), []⟩]) (.ite (.t 81) (.seq (.ops [⟨0, (some 84), none, .mov (.t 0), []⟩, ⟨1, (some 85), none, .mov (.t 2), []⟩, ⟨2, (some 86), none, .call (.c (.func (.func 42) #[] #[])) [.t 84, .t 85], []⟩, ⟨3, (some 83), none, .mov (.t 86), []⟩, ⟨4, (some 87), none, .ext (.t 83) 0, []⟩, ⟨5, (some 88), none, .ext (.t 83) 1, []⟩, ⟨6, (some 18), none, .mov (.t 87), []⟩, ⟨7, (some 19), none, .mov (.t 88), []⟩]) (.seq (.ops [⟨0, (some 89), none, .mov (.t 18), []⟩, ⟨1, (some 90), none, .bsl 27 1 [.slice none 0 0] [(0, (1, .t 89))], []⟩, ⟨2, (some 10), none, .mov (.t 90), []⟩]) .ret)) (.seq (.ops [⟨0, (some 92), none, .bin .eql (.t 26) (.c (.int .i64 9)), []⟩, ⟨1, (some 91), none, .mov (.t 92), []⟩]) (.ite (.t 91) (.seq (.ops [⟨0, (some 94), none, .mov (.t 0), []⟩, ⟨1, (some 95), none, .mov (.t 2), []⟩, ⟨2, (some 96), none, .mov (.t 3), []⟩, ⟨3, (some 97), none, .call (.c (.func (.func 47) #[] #[])) [.t 94, .t 95, .t 96], []⟩, ⟨4, (some 93), none, .mov (.t 97), []⟩, ⟨5, (some 98), none, .ext (.t 93) 0, []⟩, ⟨6, (some 99), none, .ext (.t 93) 1, []⟩, ⟨7, (some 20), none, .mov (.t 98), []⟩, ⟨8, (some 21), none, .mov (.t 99), []⟩]) (.seq (.ops [⟨0, (some 100), none, .mov (.t 20), []⟩, ⟨1, (some 101), none, .bsl 27 1 [.slice none 0 0] [(0, (1, .t 100))], []⟩, ⟨2, (some 10), none, .mov (.t 101), []⟩]) .ret)) .skip)))))))))))))))))) (.seq (.ops [⟨0, (some 103), none, .mov (.t 0), []⟩, ⟨1, (some 104), none, .mov (.t 2), []⟩, ⟨2, (some 105), none, .mov (.t 3), []⟩, ⟨3, (some 106), none, .mov (.t 4), []⟩, ⟨4, (some 107), none, .call (.c (.func (.func 57) #[] #[])) [.t 103, .t 104, .t 105, .t 106], []⟩, ⟨5, (some 102), none, .mov (.t 107), []⟩, ⟨6, (some 108), none, .ext (.t 102) 0, []⟩, ⟨7, (some 109), none, .ext (.t 102) 1, []⟩, ⟨8, (some 110), none, .ext (.t 102) 2, []⟩, ⟨9, (some 111), none, .ext (.t 102) 3, []⟩, ⟨10, (some 22), none, .mov (.t 108), []⟩, ⟨11, (some 23), none, .mov (.t 109), []⟩, ⟨12, (some 24), none, .mov (.t 110), []⟩, ⟨13, (some 25), none, .mov (.t 111), []⟩]) (.seq (.ops [⟨0, (some 112), none, .mov (.t 22), []⟩, ⟨1, (some 113), none, .mov (.t 23), []⟩, ⟨2, (some 114), none, .mov (.t 24), []⟩, ⟨3, (some 115), none, .bsl 27 3 [.slice none 0 0] [(0, (1, .t 112)), (1, (1, .t 113)), (2, (1, .t 114))], []⟩, ⟨4, (some 10), none, .mov (.t 115), []⟩]) .ret)))
attribute [irreducible] c_culletlaw04_calls16
theorem run_culletlaw04_calls16 {args : List Value} {w : World} {K : Value → World → Prop} (hn : args.length ≤ 116) (h : WP Try.prog c_culletlaw04_calls16 (endQ [.t 10] K) (initT args) w) : CallV Try.prog 69 args w K :=
  call_of follows Try.func69 (by kernel_rfl) (by kernel_rfl) hn h
def c_culletlaw04_calls8 : C := .seq (.ops [⟨0, (some 10), none, .mov (.c (.slice none 0 0)), []⟩]) (.seq (.seq (.ops [⟨0, (some 26), none, .mov (.t 1), []⟩]) (.block 0 (.seq (.ops [⟨0, (some 28), none, .bin .eql (.t 26) (.c (.int .i64 1)), []⟩, ⟨1, (some 27), none, .mov (.t 28), []⟩]) (.ite (.t 27) (.seq (.ops [⟨0, (some 29), none, .mov (.t 0), []⟩, ⟨1, (some 30), none, .mov (.t 2), []⟩, ⟨2, (some 31), none, .call (.c (.func (.func 50) #[] #[])) [.t 29, .t 30], []⟩, ⟨3, (some 32), none, .bsl 57 1 [.slice none 0 0] [(0, (1, .t 31))], []⟩, ⟨4, (some 10), none, .mov (.t 32), []⟩]) .ret) (.seq (.ops [⟨0, (some 34), none, .bin .eql (.t 26) (.c (.int .i64 2)), []⟩, ⟨1, (some 33), none, .mov (.t 34), []⟩]) (.ite (.t 33) (.seq (.ops [⟨0, (some 35), none, .mov (.t 0), []⟩, ⟨1, (some 36), none, .mov (.t 2), []⟩, ⟨2, (some 37), none, .mov (.t 3), []⟩, ⟨3, (some 38), none, .call (.c (.func (.func 52) #[] #[])) [.t 35, .t 36, .t 37], []⟩, ⟨4, (some 39), none, .bsl 57 1 [.slice none 0 0] [(0, (1, .t 38))], []⟩, ⟨5, (some 10), none, .mov (.t 39), []⟩]) .ret) (.seq (.ops [⟨0, (some 41), none, .bin .eql (.t 26) (.c (.int .i64 4)), []⟩, ⟨1, (some 40), none, .mov (.t 41), []⟩]) (.ite (.t 40) (.seq (.ops [⟨0, (some 42), none, .mov (.t 0), []⟩, ⟨1, (some 43), none, .mov (.t 2), []⟩, ⟨2, (some 44), none, .call (.c (.func (.func 45) #[] #[])) [.t 42, .t 43], []⟩, ⟨3, (some 45), none, .bsl 57 1 [.slice none 0 0] [(0, (1, .t 44))], []⟩, ⟨4, (some 10), none, .mov (.t 45), []⟩]) .ret) (.seq (.ops [⟨0, (some 47), none, .bin .eql (.t 26) (.c (.int .i64 5)), []⟩, ⟨1, (some 46), none, .mov (.t 47), []⟩]) (.ite (.t 46) (.seq (.ops [⟨0, (some 49), none, .mov (.t 0), []⟩, ⟨1, (some 50), none, .mov (.t 2), []⟩, ⟨2, (some 51), none, .mov (.t 3), []⟩, ⟨3, (some 52), none, .call (.c (.func (.func 39) #[] #[])) [.t 49, .t 50, .t 51], []⟩, ⟨4, (some 48), none, .mov (.t 52), []⟩, ⟨5, (some 53), none, .ext (.t 48) 0, []⟩, ⟨6, (some 54), none, .ext (.t 48) 1, []⟩, ⟨7, (some 11), none, .mov (.t 53), []⟩, ⟨8, (some 12), none, .mov (.t 54), []⟩]) (.seq (.ops [⟨0, (some 55), none, .mov (.t 11), []⟩, ⟨1, (some 56), none, .bsl 57 1 [.slice none 0 0] [(0, (1, .t 55))], []⟩, ⟨2, (some 10), none, .mov (.t 56), []⟩]) .ret)) (.seq (.ops [⟨0, (some 58), none, .bin .eql (.t 26) (.c (.int .i64 6)), []⟩, ⟨1, (some 57), none, .mov (.t 58), []⟩]) (.ite (.t 57) (.seq (.ops [⟨0, (some 60), none, .mov (.t 0), []⟩, ⟨1, (some 61), none, .mov (.t 2), []⟩, ⟨2, (some 62), none, .mov (.t 3), []⟩, ⟨3, (some 63), none, .call (.c (.func (.func 56) #[] #[])) [.t 60, .t 61, .t 62], []⟩, ⟨4, (some 59), none, .mov (.t 63), []⟩, ⟨5, (some 64), none, .ext (.t 59) 0, []⟩, ⟨6, (some 65), none, .ext (.t 59) 1, []⟩, ⟨7, (some 66), none, .ext (.t 59) 2, []⟩, ⟨8, (some 13), none, .mov (.t 64), []⟩, ⟨9, (some 14), none, .mov (.t 65), []⟩, ⟨10, (some 15), none, .mov (.t 66), []⟩]) (.seq (.ops [⟨0, (some 67), none, .mov (.t 13), []⟩, ⟨1, (some 68), none, .mov (.t 14), []⟩, ⟨2, (some 69), none, .bsl 57 2 [.slice none 0 0] [(0, (1, .t 67)), (1, (1, .t 68))], []⟩, ⟨3, (some 10), none, .mov (.t 69), []⟩]) .ret)) (.seq (.ops [⟨0, (some 71), none, .bin .eql (.t 26) (.c (.int .i64 7)), []⟩, ⟨1, (some 70), none, .mov (.t 71), []⟩]) (.ite (.t 70) (.seq (.ops [⟨0, (some 73), none, .mov (.t 0), []⟩, ⟨1, (some 74), none, .mov (.t 2), []⟩, ⟨2, (some 75), none, .mov (.t 3), []⟩, ⟨3, (some 76), none, .call (.c (.func (.func 60) #[] #[])) [.t 73, .t 74, .t 75], []⟩, ⟨4, (some 72), none, .mov (.t 76), []⟩, ⟨5, (some 77), none, .ext (.t 72) 0, []⟩, ⟨6, (some 78), none, .ext (.t 72) 1, []⟩, ⟨7, (some 16), none, .mov (.t 77), []⟩, ⟨8, (some 17), none, .mov (.t 78), []⟩]) (.seq (.ops [⟨0, (some 79), none, .mov (.t 16), []⟩, ⟨1, (some 80), none, .bsl 57 1 [.slice none 0 0] [(0, (1, .t 79))], []⟩, ⟨2, (some 10), none, .mov (.t 80), []⟩]) .ret)) (.seq (.ops [⟨0, (some 82), none, .bin .eql (.t 26) (.c (.int .i64 8)), []⟩, ⟨1, (some 81), none, .mov (.t 82), []⟩]) (.ite (.t 81) (.seq (.ops [⟨0, (some 84), none, .mov (.t 0), []⟩, ⟨1, (some 85), none, .mov (.t 2), []⟩, ⟨2, (some 86), none, .call (.c (.func (.func 43) #[] #[])) [.t 84, .t 85], []⟩, ⟨3, (some 83), none, .mov (.t 86), []⟩, ⟨4, (some 87), none, .ext (.t 83) 0, []⟩, ⟨5, (some 88), none, .ext (.t 83) 1, []⟩, ⟨6, (some 18), none, .mov (.t 87), []⟩, ⟨7, (some 19), none, .mov (.t 88), []⟩]) (.seq (.ops [⟨0, (some 89), none, .mov (.t 18), []⟩, ⟨1, (some 90), none, .bsl 57 1 [.slice none 0 0] [(0, (1, .t 89))], []⟩, ⟨2, (some 10), none, .mov (.t 90), []⟩]) .ret)) (.seq (.ops [⟨0, (some 92), none, .bin .eql (.t 26) (.c (.int .i64 9)), []⟩, ⟨1, (some 91), none, .mov (.t 92), []⟩]) (.ite (.t 91) (.seq (.ops [⟨0, (some 94), none, .mov (.t 0), []⟩, ⟨1, (some 95), none, .mov (.t 2), []⟩, ⟨2, (some 96), none, .mov (.t 3), []⟩, ⟨3, (some 97), none, .call (.c (.func (.func 48) #[] #[])) [.t 94, .t 95, .t 96], []⟩, ⟨4, (some 93), none, .mov (.t 97), []⟩, ⟨5, (some 98), none, .ext (.t 93) 0, []⟩, ⟨6, (some 99), none, .ext (.t 93) 1, []⟩, ⟨7, (some 20), none, .mov (.t 98), []⟩, ⟨8, (some 21), none, .mov (.t 99), []⟩]) (.seq (.ops [⟨0, (some 100), none, .mov (.t 20), []⟩, ⟨1, (some 101), none, .bsl 57 1 [.slice none 0 0] [(0, (1, .t 100))], []⟩, ⟨2, (some 10), none, .mov (.t 101), []⟩]) .ret)) .skip)))))))))))))))))) (.seq (.ops [⟨0, (some 103), none, .mov (.t 0), []⟩, ⟨1, (some 104), none, .mov (.t 2), []⟩, ⟨2, (some 105), none, .mov (.t 3), []⟩, ⟨3, (some 106), none, .mov (.t 4), []⟩, ⟨4, (some 107), none, .call (.c (.func (.func 58) #[] #[])) [.t 103, .t 104, .t 105, .t 106], []⟩, ⟨5, (some 102), none, .mov (.t 107), []⟩, ⟨6, (some 108), none, .ext (.t 102) 0, []⟩, ⟨7, (some 109), none, .ext (.t 102) 1, []⟩, ⟨8, (some 110), none, .ext (.t 102) 2, []⟩, ⟨9, (some 111), none, .ext (.t 102) 3, []⟩, ⟨10, (some 22), none, .mov (.t 108), []⟩, ⟨11, (some 23), none, .mov (.t 109), []⟩, ⟨12, (some 24), none, .mov (.t 110), []⟩, ⟨13, (some 25), none, .mov (.t 111), []⟩]) (.seq (.ops [⟨0, (some 112), none, .mov (.t 22), []⟩, ⟨1, (some 113), none, .mov (.t 23), []⟩, ⟨2, (some 114), none, .mov (.t 24), []⟩, ⟨3, (some 115), none, .bsl 57 3 [.slice none 0 0] [(0, (1, .t 112)), (1, (1, .t 113)), (2, (1, .t 114))], []⟩, ⟨4, (some 10), none, .mov (.t 115), []⟩]) .ret)))
attribute [irreducible] c_culletlaw04_calls8
theorem run_culletlaw04_calls8 {args : List Value} {w : World} {K : Value → World → Prop} (hn : args.length ≤ 116) (h : WP Try.prog c_culletlaw04_calls8 (endQ [.t 10] K) (initT args) w) : CallV Try.prog 71 args w K :=
  call_of follows Try.func71 (by kernel_rfl) (by kernel_rfl) hn h
end Go.Proofs.Ytcdagkcchfibjaa.Fw
namespace Go.Proofs.Ytcdagkcchfibjaa.Fw
open Go Go.Fw
theorem gcd_uniqw {n : Nat} [Fw.Fd n] {a b : Ps n} {m m' : List (El n)} (hm : tr m = m) (hm' : tr m' = m') (d1 : Dv (co m) a) (d2 : Dv (co m) b) (d1' : Dv (co m') a) (d2' : Dv (co m') b) (e : ∃ p q, Pol p ∧ Pol q ∧ co m = p * a + q * b) (e' : ∃ p q, Pol p ∧ Pol q ∧ co m' = p * a + q * b) (h1 : m ≠ [] → (co m).c (m.length - 1) = 1) (h1' : m' ≠ [] → (co m').c (m'.length - 1) = 1) : m = m' := by
  obtain ⟨p, q, pp, pq, e⟩ := e
  obtain ⟨p', q', pp', pq', e'⟩ := e'
  have v : Dv (co m) (co m') := by rw [e']; exact (d1.mul pp').add (d2.mul pq')
  have v' : Dv (co m') (co m) := by rw [e]; exact (d1'.mul pp).add (d2'.mul pq)
  obtain ⟨_, ⟨l, rfl⟩, hl⟩ := v
  obtain ⟨_, ⟨l', rfl⟩, hl'⟩ := v'
  by_cases h0 : m = []
  · subst h0
    have h2 : co m' = 0 := by rw [hl, co_nil, Ps.mul_zero]
    exact (tr_inj hm' tr_nil (by rw [h2, co_nil])).symm
  by_cases h0' : m' = []
  · subst h0'
    have h2 : co m = 0 := by rw [hl', co_nil, Ps.mul_zero]
    exact tr_inj hm tr_nil (by rw [h2, co_nil])
  have hp := List.length_pos_iff.2 h0
  have hp' := List.length_pos_iff.2 h0'
  have a1 := len_tr hm
  have a1' := len_tr hm'
  have h1 := h1 h0
  have h1' := h1' h0'
  have z : tln l ≠ 0 := fun e => by
    have h2 : co m' = 0 := by rw [hl, co_zero_of_tln e, Ps.zero_mul]
    rw [h2] at h1'
    exact El.one_ne h1'.symm
  have z' : tln l' ≠ 0 := fun e => by
    have h2 : co m = 0 := by rw [hl', co_zero_of_tln e, Ps.zero_mul]
    rw [h2] at h1
    exact El.one_ne h1.symm
  have b1 := tln_mul hl z (by omega)
  have b2 := tln_mul hl' z' (by omega)
  have hl1 : tln l = 1 := by omega
  have hd := tln_dg l
  rw [hl1] at hd
  have hc : co l = Ps.C ((co l).c 0) := Ps.ext fun k => by
    show _ = if k = 0 then _ else _
    by_cases hk : k = 0
    · subst hk; rw [if_pos rfl]
    · rw [if_neg hk, hd k (by omega)]
  have hll : m'.length = m.length := by omega
  rw [hl, hc, Ps.C_mul, hll, h1, El.mul_one] at h1'
  rw [hc, h1'] at hl
  refine tr_inj hm hm' (Ps.ext fun k => ?_)
  rw [hl, Ps.C_mul, El.one_mul]
def cnt04w (k : Int) : Nat := if k = 6 then 2 else if k = 10 then 3 else 1
/-- What the calls answer. -/
def Anw (k : Int) (l1 l2 : List (El 16)) (n : Int) (R : Nat → List (El 16)) : Prop :=
  (k = 1 ∧ R 0 = tr l1) ∨ (k = 2 ∧ tr (R 0) = R 0 ∧ co (R 0) = co l1 + co l2) ∨ (k = 4 ∧ tr (R 0) = R 0 ∧ co (R 0) = (co l1).D) ∨
  (k = 5 ∧ (((l1.length ≤ 1024 ∧ l2.length ≤ 1024) ∧ tr (R 0) = R 0 ∧ co (R 0) = co l1 * co l2) ∨ (¬ (l1.length ≤ 1024 ∧ l2.length ≤ 1024) ∧ R 0 = []))) ∨
  (k = 6 ∧ (((l1.length ≤ 1024 ∧ l2.length ≤ 1024 ∧ tln l2 ≠ 0) ∧ tr (R 0) = R 0 ∧ tr (R 1) = R 1 ∧ co l1 = co (R 0) * co l2 + co (R 1) ∧ (R 1).length < tln l2) ∨ (¬ (l1.length ≤ 1024 ∧ l2.length ≤ 1024 ∧ tln l2 ≠ 0) ∧ R 0 = [] ∧ R 1 = []))) ∨
  (k = 7 ∧ (((l1.length ≤ 1024 ∧ l2.length ≤ 1024) ∧ tr (R 0) = R 0 ∧ Dv (co (R 0)) (co l1) ∧ Dv (co (R 0)) (co l2) ∧ (∃ a b, Pol a ∧ Pol b ∧ co (R 0) = a * co l1 + b * co l2) ∧ (R 0 ≠ [] → (co (R 0)).c ((R 0).length - 1) = 1)) ∨ (¬ (l1.length ≤ 1024 ∧ l2.length ≤ 1024) ∧ R 0 = []))) ∨
  (k = 8 ∧ ((l1.length ≤ 1024 ∧ (R 0).length = l1.length + 1 ∧ co (R 0) = vps l1) ∨ (¬ l1.length ≤ 1024 ∧ R 0 = []))) ∨
  (k = 9 ∧ (((l1.length ≤ 1024 ∧ l2.length ≤ 1024 ∧ l2.length = l1.length ∧ (∀ a b, a < l1.length → b < l1.length → l1.getD a 0 = l1.getD b 0 → a = b)) ∧ tr (R 0) = R 0 ∧ co (R 0) = nw (fun j => l1.getD j 0) (fun j => l2.getD j 0) 0 l1.length) ∨ (¬ (l1.length ≤ 1024 ∧ l2.length ≤ 1024 ∧ l2.length = l1.length ∧ (∀ a b, a < l1.length → b < l1.length → l1.getD a 0 = l1.getD b 0 → a = b)) ∧ R 0 = []))) ∨
  (k = 10 ∧ (((l1.length ≤ 1024 ∧ l2.length ≤ 1024 ∧ 0 ≤ n) ∧ Eu n.toNat (tr l1) (tr l2) [1] [] [] [1] (R 0) (R 1) (R 2)) ∨ (¬ (l1.length ≤ 1024 ∧ l2.length ≤ 1024 ∧ 0 ≤ n) ∧ R 0 = [] ∧ R 1 = [] ∧ R 2 = [])))
theorem Anw.uniq {k : Int} {l1 l2 : List (El 16)} {n : Int} {R R' : Nat → List (El 16)} (h : Anw k l1 l2 n R) (h' : Anw k l1 l2 n R') : ∀ j, j < cnt04w k → R j = R' j := by
  have c1 : k ≠ 6 → k ≠ 10 → R 0 = R' 0 → ∀ j, j < cnt04w k → R j = R' j := fun h6 h10 e j hj => by
    unfold cnt04w at hj
    rw [if_neg h6, if_neg h10] at hj
    obtain rfl : j = 0 := by omega
    exact e
  rcases h with ⟨hk, h⟩ | ⟨hk, h⟩ | ⟨hk, h⟩ | ⟨hk, h⟩ | ⟨hk, h⟩ | ⟨hk, h⟩ | ⟨hk, h⟩ | ⟨hk, h⟩ | ⟨hk, h⟩ <;> rcases h' with ⟨hk', h'⟩ | ⟨hk', h'⟩ | ⟨hk', h'⟩ | ⟨hk', h'⟩ | ⟨hk', h'⟩ | ⟨hk', h'⟩ | ⟨hk', h'⟩ | ⟨hk', h'⟩ | ⟨hk', h'⟩ <;> first | (exfalso; omega) | skip
  · exact c1 (by omega) (by omega) (h.trans h'.symm)
  · exact c1 (by omega) (by omega) (tr_inj h.1 h'.1 (h.2.trans h'.2.symm))
  · exact c1 (by omega) (by omega) (tr_inj h.1 h'.1 (h.2.trans h'.2.symm))
  · refine c1 (by omega) (by omega) ?_
    rcases h with ⟨a, b, c⟩ | ⟨a, b⟩ <;> rcases h' with ⟨a', b', c'⟩ | ⟨a', b'⟩
    · exact tr_inj b b' (c.trans c'.symm)
    · exact absurd a a'
    · exact absurd a' a
    · exact b.trans b'.symm
  · have key : R 0 = R' 0 ∧ R 1 = R' 1 := by
      rcases h with ⟨a, b, c, d, e⟩ | ⟨a, b, c⟩ <;> rcases h' with ⟨a', b', c', d', e'⟩ | ⟨a', b', c'⟩
      · exact div_uniq b c b' c' d d' e e'
      · exact absurd a a'
      · exact absurd a' a
      · exact ⟨b.trans b'.symm, c.trans c'.symm⟩
    intro j hj
    unfold cnt04w at hj
    rw [if_pos hk] at hj
    obtain rfl | rfl : j = 0 ∨ j = 1 := by omega
    · exact key.1
    · exact key.2
  · refine c1 (by omega) (by omega) ?_
    rcases h with ⟨a, b, c, d, e, f⟩ | ⟨a, b⟩ <;> rcases h' with ⟨a', b', c', d', e', f'⟩ | ⟨a', b'⟩
    · exact gcd_uniqw b b' c d c' d' e e' f f'
    · exact absurd a a'
    · exact absurd a' a
    · exact b.trans b'.symm
  · refine c1 (by omega) (by omega) ?_
    rcases h with ⟨a, b, c⟩ | ⟨a, b⟩ <;> rcases h' with ⟨a', b', c'⟩ | ⟨a', b'⟩
    · exact co_ext (b.trans b'.symm) (c.trans c'.symm)
    · exact absurd a a'
    · exact absurd a' a
    · exact b.trans b'.symm
  · refine c1 (by omega) (by omega) ?_
    rcases h with ⟨a, b, c⟩ | ⟨a, b⟩ <;> rcases h' with ⟨a', b', c'⟩ | ⟨a', b'⟩
    · exact tr_inj b b' (c.trans c'.symm)
    · exact absurd a a'
    · exact absurd a' a
    · exact b.trans b'.symm
  · have key : R 0 = R' 0 ∧ R 1 = R' 1 ∧ R 2 = R' 2 := by
      rcases h with ⟨a, b⟩ | ⟨a, b, c, d⟩ <;> rcases h' with ⟨a', b'⟩ | ⟨a', b', c', d'⟩
      · exact b.det (tr_tr l2) b'
      · exact absurd a a'
      · exact absurd a' a
      · exact ⟨b.trans b'.symm, c.trans c'.symm, d.trans d'.symm⟩
    intro j hj
    unfold cnt04w at hj
    rw [if_neg (by omega), if_pos hk] at hj
    obtain rfl | rfl | rfl : j = 0 ∨ j = 1 ∨ j = 2 := by omega
    · exact key.1
    · exact key.2.1
    · exact key.2.2
theorem Rg.of1w {w0 w1 w2 : World} {x : Hd} {l : List (El 16)} {v : Value} (h : Ow w0.heap.size w1 (Cell.v x) l) (hB : RowKit.Below w1.heap.size w1 w2) (hv : Ow w1.heap.size w2 v [x]) (hsz : w0.heap.size ≤ w1.heap.size) : Rg w0.heap.size w2.heap.size w2 v [x] (fun _ => l) :=
  Rg.mk' (fun j hj => by obtain rfl : j = 0 := (by simpa using hj); exact h) (fun i j hi hj b hij => by simp at hi hj; omega) hB hv hsz
set_option maxHeartbeats 4000000 in
theorem culletlaw04_calls16_spec (w : World) (r s1 s2 : Value) (l1 l2 : List (El 16)) (k n : Int) (hr : Ring_w w r) (h1 : Sl w s1 l1) (h2 : Sl w s2 l2) (b1 : l1.length ≤ 70368744175616) (b2 : l2.length ≤ 70368744175616) (hk : k = 1 ∨ k = 2 ∨ k = 4 ∨ k = 5 ∨ k = 6 ∨ k = 7 ∨ k = 8 ∨ k = 9 ∨ k = 10) :
    CallV Try.prog 69 [r, .int .i64 k, s1, s2, .int .i64 n] w fun v w' => RowKit.Below w.heap.size w w' ∧ ∃ (hs : List Hd) (R : Nat → List (El 16)), hs.length = cnt04w k ∧ Rg w.heap.size w'.heap.size w' v hs R ∧ Anw k l1 l2 n R ∧ ∀ j, j < cnt04w k → (R j).length ≤ 70368744175616 := by
  obtain ⟨bR, mvR, ivR, rfl, -, -⟩ := id hr
  refine run_culletlaw04_calls16 (by simp) ?_
  simp only [c_culletlaw04_calls16, WS, List.getElem_cons_zero, List.getElem_cons_succ, Option.isNone_some, Option.isNone_none, List.getD_cons_zero, List.getD_cons_succ, I.at, atL, atO, atP, evp, evs, retV, ↓reduceIte, Nat.reduceEqDiff, reduceCtorEq]
  rcases hk with rfl | rfl | rfl | rfl | rfl | rfl | rfl | rfl | rfl
  · simp (maxSteps := 1000000) (disch := omega) only [WS, List.getElem_cons_zero, List.getElem_cons_succ, Option.isNone_some, Option.isNone_none, List.getD_cons_zero, List.getD_cons_succ, I.at, atL, atO, atP, evp, evs, retV, ↓reduceIte, Nat.reduceEqDiff, reduceCtorEq, AS, show decide ((1 : Int) = 1) = true from rfl, show decide ((1 : Int) = 2) = false from rfl, show decide ((1 : Int) = 4) = false from rfl, show decide ((1 : Int) = 5) = false from rfl, show decide ((1 : Int) = 6) = false from rfl, show decide ((1 : Int) = 7) = false from rfl, show decide ((1 : Int) = 8) = false from rfl, show decide ((1 : Int) = 9) = false from rfl]
    refine X_call0 ((polys_Ring_w_Trim2_spec w _ s1 l1 hr h1 b1).mono ?_)
    rintro s w1 ⟨m, o, q1, q2, q3, hB⟩
    obtain ⟨x, rfl⟩ : ∃ x : Hd, s = Cell.v x := ⟨hd s, o.sl.hd.1.symm⟩
    simp (maxSteps := 1000000) (disch := omega) only [WS, List.getElem_cons_zero, List.getElem_cons_succ, Option.isNone_some, Option.isNone_none, List.getD_cons_zero, List.getD_cons_succ, I.at, atL, atO, atP, evp, evs, retV, ↓reduceIte, Nat.reduceEqDiff, reduceCtorEq, AS]
    refine X_bsl (zs := [x]) (by rfl) (by rfl) fun v w2 ov hB2 => ?_
    simp (maxSteps := 1000000) (disch := omega) only [WS, List.getElem_cons_zero, List.getElem_cons_succ, Option.isNone_some, Option.isNone_none, List.getD_cons_zero, List.getD_cons_succ, I.at, atL, atO, atP, evp, evs, retV, ↓reduceIte, Nat.reduceEqDiff, reduceCtorEq, AS]
    exact ⟨hB.trans (hB2.mono hB.size), [x], fun _ => m, rfl, Rg.of1w o hB2 ov hB.size, Or.inl ⟨rfl, q1.symm.trans (tr_eq q2)⟩, fun j _ => by show (m).length ≤ _; omega⟩
  · simp (maxSteps := 1000000) (disch := omega) only [WS, List.getElem_cons_zero, List.getElem_cons_succ, Option.isNone_some, Option.isNone_none, List.getD_cons_zero, List.getD_cons_succ, I.at, atL, atO, atP, evp, evs, retV, ↓reduceIte, Nat.reduceEqDiff, reduceCtorEq, AS, show decide ((2 : Int) = 1) = false from rfl, show decide ((2 : Int) = 2) = true from rfl, show decide ((2 : Int) = 4) = false from rfl, show decide ((2 : Int) = 5) = false from rfl, show decide ((2 : Int) = 6) = false from rfl, show decide ((2 : Int) = 7) = false from rfl, show decide ((2 : Int) = 8) = false from rfl, show decide ((2 : Int) = 9) = false from rfl]
    refine X_call0 ((polys_Ring_w_Add_spec w _ s1 s2 l1 l2 hr h1 h2 b1 b2).mono ?_)
    rintro s w1 ⟨m, o, q1, q2, q3, hB⟩
    obtain ⟨x, rfl⟩ : ∃ x : Hd, s = Cell.v x := ⟨hd s, o.sl.hd.1.symm⟩
    simp (maxSteps := 1000000) (disch := omega) only [WS, List.getElem_cons_zero, List.getElem_cons_succ, Option.isNone_some, Option.isNone_none, List.getD_cons_zero, List.getD_cons_succ, I.at, atL, atO, atP, evp, evs, retV, ↓reduceIte, Nat.reduceEqDiff, reduceCtorEq, AS]
    refine X_bsl (zs := [x]) (by rfl) (by rfl) fun v w2 ov hB2 => ?_
    simp (maxSteps := 1000000) (disch := omega) only [WS, List.getElem_cons_zero, List.getElem_cons_succ, Option.isNone_some, Option.isNone_none, List.getD_cons_zero, List.getD_cons_succ, I.at, atL, atO, atP, evp, evs, retV, ↓reduceIte, Nat.reduceEqDiff, reduceCtorEq, AS]
    exact ⟨hB.trans (hB2.mono hB.size), [x], fun _ => m, rfl, Rg.of1w o hB2 ov hB.size, Or.inr (Or.inl ⟨rfl, q1, q2⟩), fun j _ => by show (m).length ≤ _; omega⟩
  · simp (maxSteps := 1000000) (disch := omega) only [WS, List.getElem_cons_zero, List.getElem_cons_succ, Option.isNone_some, Option.isNone_none, List.getD_cons_zero, List.getD_cons_succ, I.at, atL, atO, atP, evp, evs, retV, ↓reduceIte, Nat.reduceEqDiff, reduceCtorEq, AS, show decide ((4 : Int) = 1) = false from rfl, show decide ((4 : Int) = 2) = false from rfl, show decide ((4 : Int) = 4) = true from rfl, show decide ((4 : Int) = 5) = false from rfl, show decide ((4 : Int) = 6) = false from rfl, show decide ((4 : Int) = 7) = false from rfl, show decide ((4 : Int) = 8) = false from rfl, show decide ((4 : Int) = 9) = false from rfl]
    refine X_call0 ((polys_Ring_w_Derivative_spec w _ s1 l1 hr h1 b1).mono ?_)
    rintro s w1 ⟨m, o, q1, q2, q3, hB⟩
    obtain ⟨x, rfl⟩ : ∃ x : Hd, s = Cell.v x := ⟨hd s, o.sl.hd.1.symm⟩
    simp (maxSteps := 1000000) (disch := omega) only [WS, List.getElem_cons_zero, List.getElem_cons_succ, Option.isNone_some, Option.isNone_none, List.getD_cons_zero, List.getD_cons_succ, I.at, atL, atO, atP, evp, evs, retV, ↓reduceIte, Nat.reduceEqDiff, reduceCtorEq, AS]
    refine X_bsl (zs := [x]) (by rfl) (by rfl) fun v w2 ov hB2 => ?_
    simp (maxSteps := 1000000) (disch := omega) only [WS, List.getElem_cons_zero, List.getElem_cons_succ, Option.isNone_some, Option.isNone_none, List.getD_cons_zero, List.getD_cons_succ, I.at, atL, atO, atP, evp, evs, retV, ↓reduceIte, Nat.reduceEqDiff, reduceCtorEq, AS]
    exact ⟨hB.trans (hB2.mono hB.size), [x], fun _ => m, rfl, Rg.of1w o hB2 ov hB.size, Or.inr (Or.inr (Or.inl ⟨rfl, q1, q2⟩)), fun j _ => by show (m).length ≤ _; omega⟩
  · simp (maxSteps := 1000000) (disch := omega) only [WS, List.getElem_cons_zero, List.getElem_cons_succ, Option.isNone_some, Option.isNone_none, List.getD_cons_zero, List.getD_cons_succ, I.at, atL, atO, atP, evp, evs, retV, ↓reduceIte, Nat.reduceEqDiff, reduceCtorEq, AS, show decide ((5 : Int) = 1) = false from rfl, show decide ((5 : Int) = 2) = false from rfl, show decide ((5 : Int) = 4) = false from rfl, show decide ((5 : Int) = 5) = true from rfl, show decide ((5 : Int) = 6) = false from rfl, show decide ((5 : Int) = 7) = false from rfl, show decide ((5 : Int) = 8) = false from rfl, show decide ((5 : Int) = 9) = false from rfl]
    refine X_call0 ((polys_Ring_w_Mul_spec w _ s1 s2 l1 l2 hr h1 h2 b1 b2).mono ?_)
    rintro _ w1 ⟨hB, ⟨z1, z2, s, m, rfl, o, q1, q2, q3⟩ | ⟨hz, rfl⟩⟩
    · skip
      obtain ⟨x, rfl⟩ : ∃ x : Hd, s = Cell.v x := ⟨hd s, o.sl.hd.1.symm⟩
      simp (maxSteps := 1000000) (disch := omega) only [WS, List.getElem_cons_zero, List.getElem_cons_succ, Option.isNone_some, Option.isNone_none, List.getD_cons_zero, List.getD_cons_succ, I.at, atL, atO, atP, evp, evs, retV, ↓reduceIte, Nat.reduceEqDiff, reduceCtorEq, AS]
      refine X_bsl (zs := [x]) (by rfl) (by rfl) fun v w2 ov hB2 => ?_
      simp (maxSteps := 1000000) (disch := omega) only [WS, List.getElem_cons_zero, List.getElem_cons_succ, Option.isNone_some, Option.isNone_none, List.getD_cons_zero, List.getD_cons_succ, I.at, atL, atO, atP, evp, evs, retV, ↓reduceIte, Nat.reduceEqDiff, reduceCtorEq, AS]
      exact ⟨hB.trans (hB2.mono hB.size), [x], fun _ => m, rfl, Rg.of1w o hB2 ov hB.size, Or.inr (Or.inr (Or.inr (Or.inl ⟨rfl, Or.inl ⟨⟨z1, z2⟩, q1, q2⟩⟩))), fun j _ => by show (m).length ≤ _; omega⟩
    · have o : Ow w.heap.size w1 (.slice none 0 0) ([] : List (El 16)) := Ow.nil _ _
      simp (maxSteps := 1000000) (disch := omega) only [WS, List.getElem_cons_zero, List.getElem_cons_succ, Option.isNone_some, Option.isNone_none, List.getD_cons_zero, List.getD_cons_succ, I.at, atL, atO, atP, evp, evs, retV, ↓reduceIte, Nat.reduceEqDiff, reduceCtorEq, AS]
      refine X_bsl (zs := [hdn]) (by rfl) (by rfl) fun v w2 ov hB2 => ?_
      simp (maxSteps := 1000000) (disch := omega) only [WS, List.getElem_cons_zero, List.getElem_cons_succ, Option.isNone_some, Option.isNone_none, List.getD_cons_zero, List.getD_cons_succ, I.at, atL, atO, atP, evp, evs, retV, ↓reduceIte, Nat.reduceEqDiff, reduceCtorEq, AS]
      exact ⟨hB.trans (hB2.mono hB.size), [hdn], fun _ => [], rfl, Rg.of1w o hB2 ov hB.size, Or.inr (Or.inr (Or.inr (Or.inl ⟨rfl, Or.inr ⟨hz, rfl⟩⟩))), fun j _ => by show ([]).length ≤ _; simp⟩
  · simp (maxSteps := 1000000) (disch := omega) only [WS, List.getElem_cons_zero, List.getElem_cons_succ, Option.isNone_some, Option.isNone_none, List.getD_cons_zero, List.getD_cons_succ, I.at, atL, atO, atP, evp, evs, retV, ↓reduceIte, Nat.reduceEqDiff, reduceCtorEq, AS, show decide ((6 : Int) = 1) = false from rfl, show decide ((6 : Int) = 2) = false from rfl, show decide ((6 : Int) = 4) = false from rfl, show decide ((6 : Int) = 5) = false from rfl, show decide ((6 : Int) = 6) = true from rfl, show decide ((6 : Int) = 7) = false from rfl, show decide ((6 : Int) = 8) = false from rfl, show decide ((6 : Int) = 9) = false from rfl]
    refine X_call0 ((polys_Ring_w_DivMod_spec2 w _ s1 s2 l1 l2 hr h1 h2 b1 b2).mono ?_)
    have q0 := tln_le l1
    rintro _ w1 ⟨hB, ⟨z1, z2, z3, sq, sm, q, m, rfl, oq, om, e1, e2, e3, e4, e5, hsep⟩ | ⟨z1, z2, z3, rfl⟩ | ⟨hz, rfl⟩⟩
    · have q2 := tln_le l2
      obtain ⟨x, rfl⟩ : ∃ x : Hd, sq = Cell.v x := ⟨hd sq, oq.sl.hd.1.symm⟩
      obtain ⟨y, rfl⟩ : ∃ x : Hd, sm = Cell.v x := ⟨hd sm, om.sl.hd.1.symm⟩
      simp (maxSteps := 1000000) (disch := omega) only [WS, List.getElem_cons_zero, List.getElem_cons_succ, Option.isNone_some, Option.isNone_none, List.getD_cons_zero, List.getD_cons_succ, I.at, atL, atO, atP, evp, evs, retV, ↓reduceIte, Nat.reduceEqDiff, reduceCtorEq, AS]
      refine X_bsl (zs := [x, y]) (by rfl) (by rfl) fun v w2 ov hB2 => ?_
      simp (maxSteps := 1000000) (disch := omega) only [WS, List.getElem_cons_zero, List.getElem_cons_succ, Option.isNone_some, Option.isNone_none, List.getD_cons_zero, List.getD_cons_succ, I.at, atL, atO, atP, evp, evs, retV, ↓reduceIte, Nat.reduceEqDiff, reduceCtorEq, AS]
      exact ⟨hB.trans (hB2.mono hB.size), [x, y], fun j => if j = 0 then q else m, rfl, Rg.mk' (fun j hj => by obtain rfl | rfl : j = 0 ∨ j = 1 := (by simp at hj; omega) ; exact oq; exact om) (fun i j hi hj b hij hb => by
        obtain ⟨rfl, rfl⟩ | ⟨rfl, rfl⟩ : (i = 0 ∧ j = 1) ∨ (i = 1 ∧ j = 0) := by simp at hi hj; omega
        · exact hsep b hb
        · exact fun hb2 => hsep b hb2 hb) hB2 ov hB.size, Or.inr (Or.inr (Or.inr (Or.inr (Or.inl ⟨rfl, Or.inl ⟨⟨z1, z2, z3⟩, e1, e2, e3, e4⟩⟩)))), fun j hj => by
        show (if j = 0 then q else m : List (El 16)).length ≤ _
        split
        · omega
        · omega⟩
    · have o : Ow w.heap.size w1 (.slice none 0 0) ([] : List (El 16)) := Ow.nil _ _
      have hsep : ∀ b, Fw.blk (.slice none 0 0) = some b → Fw.blk (.slice none 0 0) ≠ some b := fun b hb => by simp [Fw.blk, Value.ownBlock] at hb
      simp (maxSteps := 1000000) (disch := omega) only [WS, List.getElem_cons_zero, List.getElem_cons_succ, Option.isNone_some, Option.isNone_none, List.getD_cons_zero, List.getD_cons_succ, I.at, atL, atO, atP, evp, evs, retV, ↓reduceIte, Nat.reduceEqDiff, reduceCtorEq, AS]
      refine X_bsl (zs := [hdn, hdn]) (by rfl) (by rfl) fun v w2 ov hB2 => ?_
      simp (maxSteps := 1000000) (disch := omega) only [WS, List.getElem_cons_zero, List.getElem_cons_succ, Option.isNone_some, Option.isNone_none, List.getD_cons_zero, List.getD_cons_succ, I.at, atL, atO, atP, evp, evs, retV, ↓reduceIte, Nat.reduceEqDiff, reduceCtorEq, AS]
      exact ⟨hB.trans (hB2.mono hB.size), [hdn, hdn], fun j => if j = 0 then [] else [], rfl, Rg.mk' (fun j hj => by obtain rfl | rfl : j = 0 ∨ j = 1 := (by simp at hj; omega) ; exact o; exact o) (fun i j hi hj b hij hb => by
        obtain ⟨rfl, rfl⟩ | ⟨rfl, rfl⟩ : (i = 0 ∧ j = 1) ∨ (i = 1 ∧ j = 0) := by simp at hi hj; omega
        · exact hsep b hb
        · exact fun hb2 => hsep b hb2 hb) hB2 ov hB.size, Or.inr (Or.inr (Or.inr (Or.inr (Or.inl ⟨rfl, Or.inr ⟨fun e => e.2.2 z3, rfl, rfl⟩⟩)))), fun j hj => by
        show (if j = 0 then [] else [] : List (El 16)).length ≤ _
        split
        · simp
        · simp⟩
    · have o : Ow w.heap.size w1 (.slice none 0 0) ([] : List (El 16)) := Ow.nil _ _
      have hsep : ∀ b, Fw.blk (.slice none 0 0) = some b → Fw.blk (.slice none 0 0) ≠ some b := fun b hb => by simp [Fw.blk, Value.ownBlock] at hb
      simp (maxSteps := 1000000) (disch := omega) only [WS, List.getElem_cons_zero, List.getElem_cons_succ, Option.isNone_some, Option.isNone_none, List.getD_cons_zero, List.getD_cons_succ, I.at, atL, atO, atP, evp, evs, retV, ↓reduceIte, Nat.reduceEqDiff, reduceCtorEq, AS]
      refine X_bsl (zs := [hdn, hdn]) (by rfl) (by rfl) fun v w2 ov hB2 => ?_
      simp (maxSteps := 1000000) (disch := omega) only [WS, List.getElem_cons_zero, List.getElem_cons_succ, Option.isNone_some, Option.isNone_none, List.getD_cons_zero, List.getD_cons_succ, I.at, atL, atO, atP, evp, evs, retV, ↓reduceIte, Nat.reduceEqDiff, reduceCtorEq, AS]
      exact ⟨hB.trans (hB2.mono hB.size), [hdn, hdn], fun j => if j = 0 then [] else [], rfl, Rg.mk' (fun j hj => by obtain rfl | rfl : j = 0 ∨ j = 1 := (by simp at hj; omega) ; exact o; exact o) (fun i j hi hj b hij hb => by
        obtain ⟨rfl, rfl⟩ | ⟨rfl, rfl⟩ : (i = 0 ∧ j = 1) ∨ (i = 1 ∧ j = 0) := by simp at hi hj; omega
        · exact hsep b hb
        · exact fun hb2 => hsep b hb2 hb) hB2 ov hB.size, Or.inr (Or.inr (Or.inr (Or.inr (Or.inl ⟨rfl, Or.inr ⟨fun e => hz ⟨e.1, e.2.1⟩, rfl, rfl⟩⟩)))), fun j hj => by
        show (if j = 0 then [] else [] : List (El 16)).length ≤ _
        split
        · simp
        · simp⟩
  · simp (maxSteps := 1000000) (disch := omega) only [WS, List.getElem_cons_zero, List.getElem_cons_succ, Option.isNone_some, Option.isNone_none, List.getD_cons_zero, List.getD_cons_succ, I.at, atL, atO, atP, evp, evs, retV, ↓reduceIte, Nat.reduceEqDiff, reduceCtorEq, AS, show decide ((7 : Int) = 1) = false from rfl, show decide ((7 : Int) = 2) = false from rfl, show decide ((7 : Int) = 4) = false from rfl, show decide ((7 : Int) = 5) = false from rfl, show decide ((7 : Int) = 6) = false from rfl, show decide ((7 : Int) = 7) = true from rfl, show decide ((7 : Int) = 8) = false from rfl, show decide ((7 : Int) = 9) = false from rfl]
    refine X_call0 ((polys_Ring_w_Gcd_spec w _ s1 s2 l1 l2 hr h1 h2 b1 b2).mono ?_)
    rintro _ w1 ⟨hB, ⟨z1, z2, s, m, rfl, o, q1, q2, q3, q4, q5, q6⟩ | ⟨hz, rfl⟩⟩
    · skip
      obtain ⟨x, rfl⟩ : ∃ x : Hd, s = Cell.v x := ⟨hd s, o.sl.hd.1.symm⟩
      simp (maxSteps := 1000000) (disch := omega) only [WS, List.getElem_cons_zero, List.getElem_cons_succ, Option.isNone_some, Option.isNone_none, List.getD_cons_zero, List.getD_cons_succ, I.at, atL, atO, atP, evp, evs, retV, ↓reduceIte, Nat.reduceEqDiff, reduceCtorEq, AS]
      refine X_bsl (zs := [x]) (by rfl) (by rfl) fun v w2 ov hB2 => ?_
      simp (maxSteps := 1000000) (disch := omega) only [WS, List.getElem_cons_zero, List.getElem_cons_succ, Option.isNone_some, Option.isNone_none, List.getD_cons_zero, List.getD_cons_succ, I.at, atL, atO, atP, evp, evs, retV, ↓reduceIte, Nat.reduceEqDiff, reduceCtorEq, AS]
      exact ⟨hB.trans (hB2.mono hB.size), [x], fun _ => m, rfl, Rg.of1w o hB2 ov hB.size, Or.inr (Or.inr (Or.inr (Or.inr (Or.inr (Or.inl ⟨rfl, Or.inl ⟨⟨z1, z2⟩, q1, q2, q3, q4, q5⟩⟩))))), fun j _ => by show (m).length ≤ _; omega⟩
    · have o : Ow w.heap.size w1 (.slice none 0 0) ([] : List (El 16)) := Ow.nil _ _
      simp (maxSteps := 1000000) (disch := omega) only [WS, List.getElem_cons_zero, List.getElem_cons_succ, Option.isNone_some, Option.isNone_none, List.getD_cons_zero, List.getD_cons_succ, I.at, atL, atO, atP, evp, evs, retV, ↓reduceIte, Nat.reduceEqDiff, reduceCtorEq, AS]
      refine X_bsl (zs := [hdn]) (by rfl) (by rfl) fun v w2 ov hB2 => ?_
      simp (maxSteps := 1000000) (disch := omega) only [WS, List.getElem_cons_zero, List.getElem_cons_succ, Option.isNone_some, Option.isNone_none, List.getD_cons_zero, List.getD_cons_succ, I.at, atL, atO, atP, evp, evs, retV, ↓reduceIte, Nat.reduceEqDiff, reduceCtorEq, AS]
      exact ⟨hB.trans (hB2.mono hB.size), [hdn], fun _ => [], rfl, Rg.of1w o hB2 ov hB.size, Or.inr (Or.inr (Or.inr (Or.inr (Or.inr (Or.inl ⟨rfl, Or.inr ⟨hz, rfl⟩⟩))))), fun j _ => by show ([]).length ≤ _; simp⟩
  · simp (maxSteps := 1000000) (disch := omega) only [WS, List.getElem_cons_zero, List.getElem_cons_succ, Option.isNone_some, Option.isNone_none, List.getD_cons_zero, List.getD_cons_succ, I.at, atL, atO, atP, evp, evs, retV, ↓reduceIte, Nat.reduceEqDiff, reduceCtorEq, AS, show decide ((8 : Int) = 1) = false from rfl, show decide ((8 : Int) = 2) = false from rfl, show decide ((8 : Int) = 4) = false from rfl, show decide ((8 : Int) = 5) = false from rfl, show decide ((8 : Int) = 6) = false from rfl, show decide ((8 : Int) = 7) = false from rfl, show decide ((8 : Int) = 8) = true from rfl, show decide ((8 : Int) = 9) = false from rfl]
    refine X_call0 ((polys_Ring_w_Vanishing_spec w _ s1 l1 hr h1 b1).mono ?_)
    rintro _ w1 ⟨hB, ⟨z1, s, m, rfl, o, q1, q2⟩ | ⟨hz, rfl⟩⟩
    · skip
      obtain ⟨x, rfl⟩ : ∃ x : Hd, s = Cell.v x := ⟨hd s, o.sl.hd.1.symm⟩
      simp (maxSteps := 1000000) (disch := omega) only [WS, List.getElem_cons_zero, List.getElem_cons_succ, Option.isNone_some, Option.isNone_none, List.getD_cons_zero, List.getD_cons_succ, I.at, atL, atO, atP, evp, evs, retV, ↓reduceIte, Nat.reduceEqDiff, reduceCtorEq, AS]
      refine X_bsl (zs := [x]) (by rfl) (by rfl) fun v w2 ov hB2 => ?_
      simp (maxSteps := 1000000) (disch := omega) only [WS, List.getElem_cons_zero, List.getElem_cons_succ, Option.isNone_some, Option.isNone_none, List.getD_cons_zero, List.getD_cons_succ, I.at, atL, atO, atP, evp, evs, retV, ↓reduceIte, Nat.reduceEqDiff, reduceCtorEq, AS]
      exact ⟨hB.trans (hB2.mono hB.size), [x], fun _ => m, rfl, Rg.of1w o hB2 ov hB.size, Or.inr (Or.inr (Or.inr (Or.inr (Or.inr (Or.inr (Or.inl ⟨rfl, Or.inl ⟨z1, q1, q2⟩⟩)))))), fun j _ => by show (m).length ≤ _; omega⟩
    · have o : Ow w.heap.size w1 (.slice none 0 0) ([] : List (El 16)) := Ow.nil _ _
      simp (maxSteps := 1000000) (disch := omega) only [WS, List.getElem_cons_zero, List.getElem_cons_succ, Option.isNone_some, Option.isNone_none, List.getD_cons_zero, List.getD_cons_succ, I.at, atL, atO, atP, evp, evs, retV, ↓reduceIte, Nat.reduceEqDiff, reduceCtorEq, AS]
      refine X_bsl (zs := [hdn]) (by rfl) (by rfl) fun v w2 ov hB2 => ?_
      simp (maxSteps := 1000000) (disch := omega) only [WS, List.getElem_cons_zero, List.getElem_cons_succ, Option.isNone_some, Option.isNone_none, List.getD_cons_zero, List.getD_cons_succ, I.at, atL, atO, atP, evp, evs, retV, ↓reduceIte, Nat.reduceEqDiff, reduceCtorEq, AS]
      exact ⟨hB.trans (hB2.mono hB.size), [hdn], fun _ => [], rfl, Rg.of1w o hB2 ov hB.size, Or.inr (Or.inr (Or.inr (Or.inr (Or.inr (Or.inr (Or.inl ⟨rfl, Or.inr ⟨hz, rfl⟩⟩)))))), fun j _ => by show ([]).length ≤ _; simp⟩
  · simp (maxSteps := 1000000) (disch := omega) only [WS, List.getElem_cons_zero, List.getElem_cons_succ, Option.isNone_some, Option.isNone_none, List.getD_cons_zero, List.getD_cons_succ, I.at, atL, atO, atP, evp, evs, retV, ↓reduceIte, Nat.reduceEqDiff, reduceCtorEq, AS, show decide ((9 : Int) = 1) = false from rfl, show decide ((9 : Int) = 2) = false from rfl, show decide ((9 : Int) = 4) = false from rfl, show decide ((9 : Int) = 5) = false from rfl, show decide ((9 : Int) = 6) = false from rfl, show decide ((9 : Int) = 7) = false from rfl, show decide ((9 : Int) = 8) = false from rfl, show decide ((9 : Int) = 9) = true from rfl]
    refine X_call0 ((polys_Ring_w_Interpolate_spec w _ s1 s2 l1 l2 hr h1 h2 b1 b2).mono ?_)
    rintro _ w1 ⟨hB, ⟨z1, z2, z3, z4, s, m, rfl, o, q1, q2, q3⟩ | ⟨z1, z2, z3, rfl⟩ | ⟨z1, z2, z3, z4, rfl⟩ | ⟨hz, rfl⟩⟩
    · skip
      obtain ⟨x, rfl⟩ : ∃ x : Hd, s = Cell.v x := ⟨hd s, o.sl.hd.1.symm⟩
      simp (maxSteps := 1000000) (disch := omega) only [WS, List.getElem_cons_zero, List.getElem_cons_succ, Option.isNone_some, Option.isNone_none, List.getD_cons_zero, List.getD_cons_succ, I.at, atL, atO, atP, evp, evs, retV, ↓reduceIte, Nat.reduceEqDiff, reduceCtorEq, AS]
      refine X_bsl (zs := [x]) (by rfl) (by rfl) fun v w2 ov hB2 => ?_
      simp (maxSteps := 1000000) (disch := omega) only [WS, List.getElem_cons_zero, List.getElem_cons_succ, Option.isNone_some, Option.isNone_none, List.getD_cons_zero, List.getD_cons_succ, I.at, atL, atO, atP, evp, evs, retV, ↓reduceIte, Nat.reduceEqDiff, reduceCtorEq, AS]
      exact ⟨hB.trans (hB2.mono hB.size), [x], fun _ => m, rfl, Rg.of1w o hB2 ov hB.size, Or.inr (Or.inr (Or.inr (Or.inr (Or.inr (Or.inr (Or.inr (Or.inl ⟨rfl, Or.inl ⟨⟨z1, z2, z3, z4⟩, q1, q2⟩⟩))))))), fun j _ => by show (m).length ≤ _; omega⟩
    · have o : Ow w.heap.size w1 (.slice none 0 0) ([] : List (El 16)) := Ow.nil _ _
      simp (maxSteps := 1000000) (disch := omega) only [WS, List.getElem_cons_zero, List.getElem_cons_succ, Option.isNone_some, Option.isNone_none, List.getD_cons_zero, List.getD_cons_succ, I.at, atL, atO, atP, evp, evs, retV, ↓reduceIte, Nat.reduceEqDiff, reduceCtorEq, AS]
      refine X_bsl (zs := [hdn]) (by rfl) (by rfl) fun v w2 ov hB2 => ?_
      simp (maxSteps := 1000000) (disch := omega) only [WS, List.getElem_cons_zero, List.getElem_cons_succ, Option.isNone_some, Option.isNone_none, List.getD_cons_zero, List.getD_cons_succ, I.at, atL, atO, atP, evp, evs, retV, ↓reduceIte, Nat.reduceEqDiff, reduceCtorEq, AS]
      exact ⟨hB.trans (hB2.mono hB.size), [hdn], fun _ => [], rfl, Rg.of1w o hB2 ov hB.size, Or.inr (Or.inr (Or.inr (Or.inr (Or.inr (Or.inr (Or.inr (Or.inl ⟨rfl, Or.inr ⟨fun e => z3 e.2.2.1, rfl⟩⟩))))))), fun j _ => by show ([]).length ≤ _; simp⟩
    · have o : Ow w.heap.size w1 (.slice none 0 0) ([] : List (El 16)) := Ow.nil _ _
      simp (maxSteps := 1000000) (disch := omega) only [WS, List.getElem_cons_zero, List.getElem_cons_succ, Option.isNone_some, Option.isNone_none, List.getD_cons_zero, List.getD_cons_succ, I.at, atL, atO, atP, evp, evs, retV, ↓reduceIte, Nat.reduceEqDiff, reduceCtorEq, AS]
      refine X_bsl (zs := [hdn]) (by rfl) (by rfl) fun v w2 ov hB2 => ?_
      simp (maxSteps := 1000000) (disch := omega) only [WS, List.getElem_cons_zero, List.getElem_cons_succ, Option.isNone_some, Option.isNone_none, List.getD_cons_zero, List.getD_cons_succ, I.at, atL, atO, atP, evp, evs, retV, ↓reduceIte, Nat.reduceEqDiff, reduceCtorEq, AS]
      exact ⟨hB.trans (hB2.mono hB.size), [hdn], fun _ => [], rfl, Rg.of1w o hB2 ov hB.size, Or.inr (Or.inr (Or.inr (Or.inr (Or.inr (Or.inr (Or.inr (Or.inl ⟨rfl, Or.inr ⟨fun e => z4 e.2.2.2, rfl⟩⟩))))))), fun j _ => by show ([]).length ≤ _; simp⟩
    · have o : Ow w.heap.size w1 (.slice none 0 0) ([] : List (El 16)) := Ow.nil _ _
      simp (maxSteps := 1000000) (disch := omega) only [WS, List.getElem_cons_zero, List.getElem_cons_succ, Option.isNone_some, Option.isNone_none, List.getD_cons_zero, List.getD_cons_succ, I.at, atL, atO, atP, evp, evs, retV, ↓reduceIte, Nat.reduceEqDiff, reduceCtorEq, AS]
      refine X_bsl (zs := [hdn]) (by rfl) (by rfl) fun v w2 ov hB2 => ?_
      simp (maxSteps := 1000000) (disch := omega) only [WS, List.getElem_cons_zero, List.getElem_cons_succ, Option.isNone_some, Option.isNone_none, List.getD_cons_zero, List.getD_cons_succ, I.at, atL, atO, atP, evp, evs, retV, ↓reduceIte, Nat.reduceEqDiff, reduceCtorEq, AS]
      exact ⟨hB.trans (hB2.mono hB.size), [hdn], fun _ => [], rfl, Rg.of1w o hB2 ov hB.size, Or.inr (Or.inr (Or.inr (Or.inr (Or.inr (Or.inr (Or.inr (Or.inl ⟨rfl, Or.inr ⟨fun e => hz ⟨e.1, e.2.1⟩, rfl⟩⟩))))))), fun j _ => by show ([]).length ≤ _; simp⟩
  · simp (maxSteps := 1000000) (disch := omega) only [WS, List.getElem_cons_zero, List.getElem_cons_succ, Option.isNone_some, Option.isNone_none, List.getD_cons_zero, List.getD_cons_succ, I.at, atL, atO, atP, evp, evs, retV, ↓reduceIte, Nat.reduceEqDiff, reduceCtorEq, AS, show decide ((10 : Int) = 1) = false from rfl, show decide ((10 : Int) = 2) = false from rfl, show decide ((10 : Int) = 4) = false from rfl, show decide ((10 : Int) = 5) = false from rfl, show decide ((10 : Int) = 6) = false from rfl, show decide ((10 : Int) = 7) = false from rfl, show decide ((10 : Int) = 8) = false from rfl, show decide ((10 : Int) = 9) = false from rfl]
    refine X_call0 ((polys_Ring_w_Partial_spec2 w _ s1 s2 l1 l2 n hr h1 h2 b1 b2).mono ?_)
    rintro _ w1 ⟨hB, ⟨z1, z2, z3, sm, su, sv, m, u, v', rfl, om, ou, ov', p1, p2, he⟩ | ⟨z1, z2, z3, rfl⟩ | ⟨hz, rfl⟩⟩
    · have q1 := tln_le l1
      have q2 := tln_le l2
      have hl1 := tr_len l1
      have hl2 := tr_len l2
      have qm := he.mlen (N := 1024) (by omega) (by omega)
      obtain ⟨qu, qv, -, -⟩ := he.lens
      obtain ⟨x, rfl⟩ : ∃ x : Hd, sm = Cell.v x := ⟨hd sm, om.sl.hd.1.symm⟩
      obtain ⟨y, rfl⟩ : ∃ x : Hd, su = Cell.v x := ⟨hd su, ou.sl.hd.1.symm⟩
      obtain ⟨z, rfl⟩ : ∃ x : Hd, sv = Cell.v x := ⟨hd sv, ov'.sl.hd.1.symm⟩
      simp (maxSteps := 1000000) (disch := omega) only [WS, List.getElem_cons_zero, List.getElem_cons_succ, Option.isNone_some, Option.isNone_none, List.getD_cons_zero, List.getD_cons_succ, I.at, atL, atO, atP, evp, evs, retV, ↓reduceIte, Nat.reduceEqDiff, reduceCtorEq, AS]
      refine X_bsl (zs := [x, y, z]) (by rfl) (by rfl) fun v w2 ov hB2 => ?_
      simp (maxSteps := 1000000) (disch := omega) only [WS, List.getElem_cons_zero, List.getElem_cons_succ, Option.isNone_some, Option.isNone_none, List.getD_cons_zero, List.getD_cons_succ, I.at, atL, atO, atP, evp, evs, retV, ↓reduceIte, Nat.reduceEqDiff, reduceCtorEq, AS]
      exact ⟨hB.trans (hB2.mono hB.size), [x, y, z], fun j => if j = 0 then m else if j = 1 then u else v', rfl, Rg.mk' (fun j hj => by obtain rfl | rfl | rfl : j = 0 ∨ j = 1 ∨ j = 2 := (by simp at hj; omega) ; exact om; exact ou; exact ov') (fun i j hi hj b hij hb => by
        obtain ⟨rfl, rfl⟩ | ⟨rfl, rfl⟩ | ⟨rfl, rfl⟩ | ⟨rfl, rfl⟩ | ⟨rfl, rfl⟩ | ⟨rfl, rfl⟩ : (i = 0 ∧ j = 1) ∨ (i = 1 ∧ j = 0) ∨ (i = 0 ∧ j = 2) ∨ (i = 2 ∧ j = 0) ∨ (i = 1 ∧ j = 2) ∨ (i = 2 ∧ j = 1) := by simp at hi hj; omega
        · exact fun hb2 => p1 b hb2 hb
        · exact p1 b hb
        · exact fun hb2 => (p2 b hb2).1 hb
        · exact (p2 b hb).1
        · exact fun hb2 => (p2 b hb2).2 hb
        · exact (p2 b hb).2) hB2 ov hB.size, Or.inr (Or.inr (Or.inr (Or.inr (Or.inr (Or.inr (Or.inr (Or.inr (⟨rfl, Or.inl ⟨⟨z1, z2, z3⟩, he⟩⟩)))))))), fun j hj => by
        show (if j = 0 then m else if j = 1 then u else v' : List (El 16)).length ≤ _
        split
        · omega
        · split
          · omega
          · omega⟩
    · have o : Ow w.heap.size w1 (.slice none 0 0) ([] : List (El 16)) := Ow.nil _ _
      have p1 : ∀ b, Fw.blk (.slice none 0 0) = some b → Fw.blk (.slice none 0 0) ≠ some b := fun b hb => by simp [Fw.blk, Value.ownBlock] at hb
      have p2 : ∀ b, Fw.blk (.slice none 0 0) = some b → Fw.blk (.slice none 0 0) ≠ some b ∧ Fw.blk (.slice none 0 0) ≠ some b := fun b hb => by simp [Fw.blk, Value.ownBlock] at hb
      simp (maxSteps := 1000000) (disch := omega) only [WS, List.getElem_cons_zero, List.getElem_cons_succ, Option.isNone_some, Option.isNone_none, List.getD_cons_zero, List.getD_cons_succ, I.at, atL, atO, atP, evp, evs, retV, ↓reduceIte, Nat.reduceEqDiff, reduceCtorEq, AS]
      refine X_bsl (zs := [hdn, hdn, hdn]) (by rfl) (by rfl) fun v w2 ov hB2 => ?_
      simp (maxSteps := 1000000) (disch := omega) only [WS, List.getElem_cons_zero, List.getElem_cons_succ, Option.isNone_some, Option.isNone_none, List.getD_cons_zero, List.getD_cons_succ, I.at, atL, atO, atP, evp, evs, retV, ↓reduceIte, Nat.reduceEqDiff, reduceCtorEq, AS]
      exact ⟨hB.trans (hB2.mono hB.size), [hdn, hdn, hdn], fun j => if j = 0 then [] else if j = 1 then [] else [], rfl, Rg.mk' (fun j hj => by obtain rfl | rfl | rfl : j = 0 ∨ j = 1 ∨ j = 2 := (by simp at hj; omega) ; exact o; exact o; exact o) (fun i j hi hj b hij hb => by
        obtain ⟨rfl, rfl⟩ | ⟨rfl, rfl⟩ | ⟨rfl, rfl⟩ | ⟨rfl, rfl⟩ | ⟨rfl, rfl⟩ | ⟨rfl, rfl⟩ : (i = 0 ∧ j = 1) ∨ (i = 1 ∧ j = 0) ∨ (i = 0 ∧ j = 2) ∨ (i = 2 ∧ j = 0) ∨ (i = 1 ∧ j = 2) ∨ (i = 2 ∧ j = 1) := by simp at hi hj; omega
        · exact fun hb2 => p1 b hb2 hb
        · exact p1 b hb
        · exact fun hb2 => (p2 b hb2).1 hb
        · exact (p2 b hb).1
        · exact fun hb2 => (p2 b hb2).2 hb
        · exact (p2 b hb).2) hB2 ov hB.size, Or.inr (Or.inr (Or.inr (Or.inr (Or.inr (Or.inr (Or.inr (Or.inr (⟨rfl, Or.inr ⟨fun e => absurd e.2.2 (by omega), rfl, rfl, rfl⟩⟩)))))))), fun j hj => by
        show (if j = 0 then [] else if j = 1 then [] else [] : List (El 16)).length ≤ _
        split
        · simp
        · split
          · simp
          · simp⟩
    · have o : Ow w.heap.size w1 (.slice none 0 0) ([] : List (El 16)) := Ow.nil _ _
      have p1 : ∀ b, Fw.blk (.slice none 0 0) = some b → Fw.blk (.slice none 0 0) ≠ some b := fun b hb => by simp [Fw.blk, Value.ownBlock] at hb
      have p2 : ∀ b, Fw.blk (.slice none 0 0) = some b → Fw.blk (.slice none 0 0) ≠ some b ∧ Fw.blk (.slice none 0 0) ≠ some b := fun b hb => by simp [Fw.blk, Value.ownBlock] at hb
      simp (maxSteps := 1000000) (disch := omega) only [WS, List.getElem_cons_zero, List.getElem_cons_succ, Option.isNone_some, Option.isNone_none, List.getD_cons_zero, List.getD_cons_succ, I.at, atL, atO, atP, evp, evs, retV, ↓reduceIte, Nat.reduceEqDiff, reduceCtorEq, AS]
      refine X_bsl (zs := [hdn, hdn, hdn]) (by rfl) (by rfl) fun v w2 ov hB2 => ?_
      simp (maxSteps := 1000000) (disch := omega) only [WS, List.getElem_cons_zero, List.getElem_cons_succ, Option.isNone_some, Option.isNone_none, List.getD_cons_zero, List.getD_cons_succ, I.at, atL, atO, atP, evp, evs, retV, ↓reduceIte, Nat.reduceEqDiff, reduceCtorEq, AS]
      exact ⟨hB.trans (hB2.mono hB.size), [hdn, hdn, hdn], fun j => if j = 0 then [] else if j = 1 then [] else [], rfl, Rg.mk' (fun j hj => by obtain rfl | rfl | rfl : j = 0 ∨ j = 1 ∨ j = 2 := (by simp at hj; omega) ; exact o; exact o; exact o) (fun i j hi hj b hij hb => by
        obtain ⟨rfl, rfl⟩ | ⟨rfl, rfl⟩ | ⟨rfl, rfl⟩ | ⟨rfl, rfl⟩ | ⟨rfl, rfl⟩ | ⟨rfl, rfl⟩ : (i = 0 ∧ j = 1) ∨ (i = 1 ∧ j = 0) ∨ (i = 0 ∧ j = 2) ∨ (i = 2 ∧ j = 0) ∨ (i = 1 ∧ j = 2) ∨ (i = 2 ∧ j = 1) := by simp at hi hj; omega
        · exact fun hb2 => p1 b hb2 hb
        · exact p1 b hb
        · exact fun hb2 => (p2 b hb2).1 hb
        · exact (p2 b hb).1
        · exact fun hb2 => (p2 b hb2).2 hb
        · exact (p2 b hb).2) hB2 ov hB.size, Or.inr (Or.inr (Or.inr (Or.inr (Or.inr (Or.inr (Or.inr (Or.inr (⟨rfl, Or.inr ⟨fun e => hz ⟨e.1, e.2.1⟩, rfl, rfl, rfl⟩⟩)))))))), fun j hj => by
        show (if j = 0 then [] else if j = 1 then [] else [] : List (El 16)).length ≤ _
        split
        · simp
        · split
          · simp
          · simp⟩
end Go.Proofs.Ytcdagkcchfibjaa.Fw

namespace Go.Proofs.Ytcdagkcchfibjaa.Fw
open Go Go.Fw
theorem gcd_uniqb {n : Nat} [Fw.Fd n] {a b : Ps n} {m m' : List (El n)} (hm : tr m = m) (hm' : tr m' = m') (d1 : Dv (co m) a) (d2 : Dv (co m) b) (d1' : Dv (co m') a) (d2' : Dv (co m') b) (e : ∃ p q, Pol p ∧ Pol q ∧ co m = p * a + q * b) (e' : ∃ p q, Pol p ∧ Pol q ∧ co m' = p * a + q * b) (h1 : m ≠ [] → (co m).c (m.length - 1) = 1) (h1' : m' ≠ [] → (co m').c (m'.length - 1) = 1) : m = m' := by
  obtain ⟨p, q, pp, pq, e⟩ := e
  obtain ⟨p', q', pp', pq', e'⟩ := e'
  have v : Dv (co m) (co m') := by rw [e']; exact (d1.mul pp').add (d2.mul pq')
  have v' : Dv (co m') (co m) := by rw [e]; exact (d1'.mul pp).add (d2'.mul pq)
  obtain ⟨_, ⟨l, rfl⟩, hl⟩ := v
  obtain ⟨_, ⟨l', rfl⟩, hl'⟩ := v'
  by_cases h0 : m = []
  · subst h0
    have h2 : co m' = 0 := by rw [hl, co_nil, Ps.mul_zero]
    exact (tr_inj hm' tr_nil (by rw [h2, co_nil])).symm
  by_cases h0' : m' = []
  · subst h0'
    have h2 : co m = 0 := by rw [hl', co_nil, Ps.mul_zero]
    exact tr_inj hm tr_nil (by rw [h2, co_nil])
  have hp := List.length_pos_iff.2 h0
  have hp' := List.length_pos_iff.2 h0'
  have a1 := len_tr hm
  have a1' := len_tr hm'
  have h1 := h1 h0
  have h1' := h1' h0'
  have z : tln l ≠ 0 := fun e => by
    have h2 : co m' = 0 := by rw [hl, co_zero_of_tln e, Ps.zero_mul]
    rw [h2] at h1'
    exact El.one_ne h1'.symm
  have z' : tln l' ≠ 0 := fun e => by
    have h2 : co m = 0 := by rw [hl', co_zero_of_tln e, Ps.zero_mul]
    rw [h2] at h1
    exact El.one_ne h1.symm
  have b1 := tln_mul hl z (by omega)
  have b2 := tln_mul hl' z' (by omega)
  have hl1 : tln l = 1 := by omega
  have hd := tln_dg l
  rw [hl1] at hd
  have hc : co l = Ps.C ((co l).c 0) := Ps.ext fun k => by
    show _ = if k = 0 then _ else _
    by_cases hk : k = 0
    · subst hk; rw [if_pos rfl]
    · rw [if_neg hk, hd k (by omega)]
  have hll : m'.length = m.length := by omega
  rw [hl, hc, Ps.C_mul, hll, h1, El.mul_one] at h1'
  rw [hc, h1'] at hl
  refine tr_inj hm hm' (Ps.ext fun k => ?_)
  rw [hl, Ps.C_mul, El.one_mul]
def cnt04b (k : Int) : Nat := if k = 6 then 2 else if k = 10 then 3 else 1
/-- What the calls answer. -/
def Anb (k : Int) (l1 l2 : List (El 8)) (n : Int) (R : Nat → List (El 8)) : Prop :=
  (k = 1 ∧ R 0 = tr l1) ∨ (k = 2 ∧ tr (R 0) = R 0 ∧ co (R 0) = co l1 + co l2) ∨ (k = 4 ∧ tr (R 0) = R 0 ∧ co (R 0) = (co l1).D) ∨
  (k = 5 ∧ (((l1.length ≤ 1024 ∧ l2.length ≤ 1024) ∧ tr (R 0) = R 0 ∧ co (R 0) = co l1 * co l2) ∨ (¬ (l1.length ≤ 1024 ∧ l2.length ≤ 1024) ∧ R 0 = []))) ∨
  (k = 6 ∧ (((l1.length ≤ 1024 ∧ l2.length ≤ 1024 ∧ tln l2 ≠ 0) ∧ tr (R 0) = R 0 ∧ tr (R 1) = R 1 ∧ co l1 = co (R 0) * co l2 + co (R 1) ∧ (R 1).length < tln l2) ∨ (¬ (l1.length ≤ 1024 ∧ l2.length ≤ 1024 ∧ tln l2 ≠ 0) ∧ R 0 = [] ∧ R 1 = []))) ∨
  (k = 7 ∧ (((l1.length ≤ 1024 ∧ l2.length ≤ 1024) ∧ tr (R 0) = R 0 ∧ Dv (co (R 0)) (co l1) ∧ Dv (co (R 0)) (co l2) ∧ (∃ a b, Pol a ∧ Pol b ∧ co (R 0) = a * co l1 + b * co l2) ∧ (R 0 ≠ [] → (co (R 0)).c ((R 0).length - 1) = 1)) ∨ (¬ (l1.length ≤ 1024 ∧ l2.length ≤ 1024) ∧ R 0 = []))) ∨
  (k = 8 ∧ ((l1.length ≤ 1024 ∧ (R 0).length = l1.length + 1 ∧ co (R 0) = vps l1) ∨ (¬ l1.length ≤ 1024 ∧ R 0 = []))) ∨
  (k = 9 ∧ (((l1.length ≤ 1024 ∧ l2.length ≤ 1024 ∧ l2.length = l1.length ∧ (∀ a b, a < l1.length → b < l1.length → l1.getD a 0 = l1.getD b 0 → a = b)) ∧ tr (R 0) = R 0 ∧ co (R 0) = nw (fun j => l1.getD j 0) (fun j => l2.getD j 0) 0 l1.length) ∨ (¬ (l1.length ≤ 1024 ∧ l2.length ≤ 1024 ∧ l2.length = l1.length ∧ (∀ a b, a < l1.length → b < l1.length → l1.getD a 0 = l1.getD b 0 → a = b)) ∧ R 0 = []))) ∨
  (k = 10 ∧ (((l1.length ≤ 1024 ∧ l2.length ≤ 1024 ∧ 0 ≤ n) ∧ Eu n.toNat (tr l1) (tr l2) [1] [] [] [1] (R 0) (R 1) (R 2)) ∨ (¬ (l1.length ≤ 1024 ∧ l2.length ≤ 1024 ∧ 0 ≤ n) ∧ R 0 = [] ∧ R 1 = [] ∧ R 2 = [])))
theorem Anb.uniq {k : Int} {l1 l2 : List (El 8)} {n : Int} {R R' : Nat → List (El 8)} (h : Anb k l1 l2 n R) (h' : Anb k l1 l2 n R') : ∀ j, j < cnt04b k → R j = R' j := by
  have c1 : k ≠ 6 → k ≠ 10 → R 0 = R' 0 → ∀ j, j < cnt04b k → R j = R' j := fun h6 h10 e j hj => by
    unfold cnt04b at hj
    rw [if_neg h6, if_neg h10] at hj
    obtain rfl : j = 0 := by omega
    exact e
  rcases h with ⟨hk, h⟩ | ⟨hk, h⟩ | ⟨hk, h⟩ | ⟨hk, h⟩ | ⟨hk, h⟩ | ⟨hk, h⟩ | ⟨hk, h⟩ | ⟨hk, h⟩ | ⟨hk, h⟩ <;> rcases h' with ⟨hk', h'⟩ | ⟨hk', h'⟩ | ⟨hk', h'⟩ | ⟨hk', h'⟩ | ⟨hk', h'⟩ | ⟨hk', h'⟩ | ⟨hk', h'⟩ | ⟨hk', h'⟩ | ⟨hk', h'⟩ <;> first | (exfalso; omega) | skip
  · exact c1 (by omega) (by omega) (h.trans h'.symm)
  · exact c1 (by omega) (by omega) (tr_inj h.1 h'.1 (h.2.trans h'.2.symm))
  · exact c1 (by omega) (by omega) (tr_inj h.1 h'.1 (h.2.trans h'.2.symm))
  · refine c1 (by omega) (by omega) ?_
    rcases h with ⟨a, b, c⟩ | ⟨a, b⟩ <;> rcases h' with ⟨a', b', c'⟩ | ⟨a', b'⟩
    · exact tr_inj b b' (c.trans c'.symm)
    · exact absurd a a'
    · exact absurd a' a
    · exact b.trans b'.symm
  · have key : R 0 = R' 0 ∧ R 1 = R' 1 := by
      rcases h with ⟨a, b, c, d, e⟩ | ⟨a, b, c⟩ <;> rcases h' with ⟨a', b', c', d', e'⟩ | ⟨a', b', c'⟩
      · exact div_uniq b c b' c' d d' e e'
      · exact absurd a a'
      · exact absurd a' a
      · exact ⟨b.trans b'.symm, c.trans c'.symm⟩
    intro j hj
    unfold cnt04b at hj
    rw [if_pos hk] at hj
    obtain rfl | rfl : j = 0 ∨ j = 1 := by omega
    · exact key.1
    · exact key.2
  · refine c1 (by omega) (by omega) ?_
    rcases h with ⟨a, b, c, d, e, f⟩ | ⟨a, b⟩ <;> rcases h' with ⟨a', b', c', d', e', f'⟩ | ⟨a', b'⟩
    · exact gcd_uniqb b b' c d c' d' e e' f f'
    · exact absurd a a'
    · exact absurd a' a
    · exact b.trans b'.symm
  · refine c1 (by omega) (by omega) ?_
    rcases h with ⟨a, b, c⟩ | ⟨a, b⟩ <;> rcases h' with ⟨a', b', c'⟩ | ⟨a', b'⟩
    · exact co_ext (b.trans b'.symm) (c.trans c'.symm)
    · exact absurd a a'
    · exact absurd a' a
    · exact b.trans b'.symm
  · refine c1 (by omega) (by omega) ?_
    rcases h with ⟨a, b, c⟩ | ⟨a, b⟩ <;> rcases h' with ⟨a', b', c'⟩ | ⟨a', b'⟩
    · exact tr_inj b b' (c.trans c'.symm)
    · exact absurd a a'
    · exact absurd a' a
    · exact b.trans b'.symm
  · have key : R 0 = R' 0 ∧ R 1 = R' 1 ∧ R 2 = R' 2 := by
      rcases h with ⟨a, b⟩ | ⟨a, b, c, d⟩ <;> rcases h' with ⟨a', b'⟩ | ⟨a', b', c', d'⟩
      · exact b.det (tr_tr l2) b'
      · exact absurd a a'
      · exact absurd a' a
      · exact ⟨b.trans b'.symm, c.trans c'.symm, d.trans d'.symm⟩
    intro j hj
    unfold cnt04b at hj
    rw [if_neg (by omega), if_pos hk] at hj
    obtain rfl | rfl | rfl : j = 0 ∨ j = 1 ∨ j = 2 := by omega
    · exact key.1
    · exact key.2.1
    · exact key.2.2
theorem Rg.of1b {w0 w1 w2 : World} {x : Hd} {l : List (El 8)} {v : Value} (h : Ow w0.heap.size w1 (Cell.v x) l) (hB : RowKit.Below w1.heap.size w1 w2) (hv : Ow w1.heap.size w2 v [x]) (hsz : w0.heap.size ≤ w1.heap.size) : Rg w0.heap.size w2.heap.size w2 v [x] (fun _ => l) :=
  Rg.mk' (fun j hj => by obtain rfl : j = 0 := (by simpa using hj); exact h) (fun i j hi hj b hij => by simp at hi hj; omega) hB hv hsz
set_option maxHeartbeats 4000000 in
theorem culletlaw04_calls8_spec (w : World) (r s1 s2 : Value) (l1 l2 : List (El 8)) (k n : Int) (hr : Ring_b w r) (h1 : Sl w s1 l1) (h2 : Sl w s2 l2) (b1 : l1.length ≤ 70368744175616) (b2 : l2.length ≤ 70368744175616) (hk : k = 1 ∨ k = 2 ∨ k = 4 ∨ k = 5 ∨ k = 6 ∨ k = 7 ∨ k = 8 ∨ k = 9 ∨ k = 10) :
    CallV Try.prog 71 [r, .int .i64 k, s1, s2, .int .i64 n] w fun v w' => RowKit.Below w.heap.size w w' ∧ ∃ (hs : List Hd) (R : Nat → List (El 8)), hs.length = cnt04b k ∧ Rg w.heap.size w'.heap.size w' v hs R ∧ Anb k l1 l2 n R ∧ ∀ j, j < cnt04b k → (R j).length ≤ 70368744175616 := by
  obtain ⟨bR, mvR, ivR, rfl, -, -⟩ := id hr
  refine run_culletlaw04_calls8 (by simp) ?_
  simp only [c_culletlaw04_calls8, WS, List.getElem_cons_zero, List.getElem_cons_succ, Option.isNone_some, Option.isNone_none, List.getD_cons_zero, List.getD_cons_succ, I.at, atL, atO, atP, evp, evs, retV, ↓reduceIte, Nat.reduceEqDiff, reduceCtorEq]
  rcases hk with rfl | rfl | rfl | rfl | rfl | rfl | rfl | rfl | rfl
  · simp (maxSteps := 1000000) (disch := omega) only [WS, List.getElem_cons_zero, List.getElem_cons_succ, Option.isNone_some, Option.isNone_none, List.getD_cons_zero, List.getD_cons_succ, I.at, atL, atO, atP, evp, evs, retV, ↓reduceIte, Nat.reduceEqDiff, reduceCtorEq, AS, show decide ((1 : Int) = 1) = true from rfl, show decide ((1 : Int) = 2) = false from rfl, show decide ((1 : Int) = 4) = false from rfl, show decide ((1 : Int) = 5) = false from rfl, show decide ((1 : Int) = 6) = false from rfl, show decide ((1 : Int) = 7) = false from rfl, show decide ((1 : Int) = 8) = false from rfl, show decide ((1 : Int) = 9) = false from rfl]
    refine X_call0 ((polys_Ring_b_Trim2_spec w _ s1 l1 hr h1 b1).mono ?_)
    rintro s w1 ⟨m, o, q1, q2, q3, hB⟩
    obtain ⟨x, rfl⟩ : ∃ x : Hd, s = Cell.v x := ⟨hd s, o.sl.hd.1.symm⟩
    simp (maxSteps := 1000000) (disch := omega) only [WS, List.getElem_cons_zero, List.getElem_cons_succ, Option.isNone_some, Option.isNone_none, List.getD_cons_zero, List.getD_cons_succ, I.at, atL, atO, atP, evp, evs, retV, ↓reduceIte, Nat.reduceEqDiff, reduceCtorEq, AS]
    refine X_bsl (zs := [x]) (by rfl) (by rfl) fun v w2 ov hB2 => ?_
    simp (maxSteps := 1000000) (disch := omega) only [WS, List.getElem_cons_zero, List.getElem_cons_succ, Option.isNone_some, Option.isNone_none, List.getD_cons_zero, List.getD_cons_succ, I.at, atL, atO, atP, evp, evs, retV, ↓reduceIte, Nat.reduceEqDiff, reduceCtorEq, AS]
    exact ⟨hB.trans (hB2.mono hB.size), [x], fun _ => m, rfl, Rg.of1b o hB2 ov hB.size, Or.inl ⟨rfl, q1.symm.trans (tr_eq q2)⟩, fun j _ => by show (m).length ≤ _; omega⟩
  · simp (maxSteps := 1000000) (disch := omega) only [WS, List.getElem_cons_zero, List.getElem_cons_succ, Option.isNone_some, Option.isNone_none, List.getD_cons_zero, List.getD_cons_succ, I.at, atL, atO, atP, evp, evs, retV, ↓reduceIte, Nat.reduceEqDiff, reduceCtorEq, AS, show decide ((2 : Int) = 1) = false from rfl, show decide ((2 : Int) = 2) = true from rfl, show decide ((2 : Int) = 4) = false from rfl, show decide ((2 : Int) = 5) = false from rfl, show decide ((2 : Int) = 6) = false from rfl, show decide ((2 : Int) = 7) = false from rfl, show decide ((2 : Int) = 8) = false from rfl, show decide ((2 : Int) = 9) = false from rfl]
    refine X_call0 ((polys_Ring_b_Add_spec w _ s1 s2 l1 l2 hr h1 h2 b1 b2).mono ?_)
    rintro s w1 ⟨m, o, q1, q2, q3, hB⟩
    obtain ⟨x, rfl⟩ : ∃ x : Hd, s = Cell.v x := ⟨hd s, o.sl.hd.1.symm⟩
    simp (maxSteps := 1000000) (disch := omega) only [WS, List.getElem_cons_zero, List.getElem_cons_succ, Option.isNone_some, Option.isNone_none, List.getD_cons_zero, List.getD_cons_succ, I.at, atL, atO, atP, evp, evs, retV, ↓reduceIte, Nat.reduceEqDiff, reduceCtorEq, AS]
    refine X_bsl (zs := [x]) (by rfl) (by rfl) fun v w2 ov hB2 => ?_
    simp (maxSteps := 1000000) (disch := omega) only [WS, List.getElem_cons_zero, List.getElem_cons_succ, Option.isNone_some, Option.isNone_none, List.getD_cons_zero, List.getD_cons_succ, I.at, atL, atO, atP, evp, evs, retV, ↓reduceIte, Nat.reduceEqDiff, reduceCtorEq, AS]
    exact ⟨hB.trans (hB2.mono hB.size), [x], fun _ => m, rfl, Rg.of1b o hB2 ov hB.size, Or.inr (Or.inl ⟨rfl, q1, q2⟩), fun j _ => by show (m).length ≤ _; omega⟩
  · simp (maxSteps := 1000000) (disch := omega) only [WS, List.getElem_cons_zero, List.getElem_cons_succ, Option.isNone_some, Option.isNone_none, List.getD_cons_zero, List.getD_cons_succ, I.at, atL, atO, atP, evp, evs, retV, ↓reduceIte, Nat.reduceEqDiff, reduceCtorEq, AS, show decide ((4 : Int) = 1) = false from rfl, show decide ((4 : Int) = 2) = false from rfl, show decide ((4 : Int) = 4) = true from rfl, show decide ((4 : Int) = 5) = false from rfl, show decide ((4 : Int) = 6) = false from rfl, show decide ((4 : Int) = 7) = false from rfl, show decide ((4 : Int) = 8) = false from rfl, show decide ((4 : Int) = 9) = false from rfl]
    refine X_call0 ((polys_Ring_b_Derivative_spec w _ s1 l1 hr h1 b1).mono ?_)
    rintro s w1 ⟨m, o, q1, q2, q3, hB⟩
    obtain ⟨x, rfl⟩ : ∃ x : Hd, s = Cell.v x := ⟨hd s, o.sl.hd.1.symm⟩
    simp (maxSteps := 1000000) (disch := omega) only [WS, List.getElem_cons_zero, List.getElem_cons_succ, Option.isNone_some, Option.isNone_none, List.getD_cons_zero, List.getD_cons_succ, I.at, atL, atO, atP, evp, evs, retV, ↓reduceIte, Nat.reduceEqDiff, reduceCtorEq, AS]
    refine X_bsl (zs := [x]) (by rfl) (by rfl) fun v w2 ov hB2 => ?_
    simp (maxSteps := 1000000) (disch := omega) only [WS, List.getElem_cons_zero, List.getElem_cons_succ, Option.isNone_some, Option.isNone_none, List.getD_cons_zero, List.getD_cons_succ, I.at, atL, atO, atP, evp, evs, retV, ↓reduceIte, Nat.reduceEqDiff, reduceCtorEq, AS]
    exact ⟨hB.trans (hB2.mono hB.size), [x], fun _ => m, rfl, Rg.of1b o hB2 ov hB.size, Or.inr (Or.inr (Or.inl ⟨rfl, q1, q2⟩)), fun j _ => by show (m).length ≤ _; omega⟩
  · simp (maxSteps := 1000000) (disch := omega) only [WS, List.getElem_cons_zero, List.getElem_cons_succ, Option.isNone_some, Option.isNone_none, List.getD_cons_zero, List.getD_cons_succ, I.at, atL, atO, atP, evp, evs, retV, ↓reduceIte, Nat.reduceEqDiff, reduceCtorEq, AS, show decide ((5 : Int) = 1) = false from rfl, show decide ((5 : Int) = 2) = false from rfl, show decide ((5 : Int) = 4) = false from rfl, show decide ((5 : Int) = 5) = true from rfl, show decide ((5 : Int) = 6) = false from rfl, show decide ((5 : Int) = 7) = false from rfl, show decide ((5 : Int) = 8) = false from rfl, show decide ((5 : Int) = 9) = false from rfl]
    refine X_call0 ((polys_Ring_b_Mul_spec w _ s1 s2 l1 l2 hr h1 h2 b1 b2).mono ?_)
    rintro _ w1 ⟨hB, ⟨z1, z2, s, m, rfl, o, q1, q2, q3⟩ | ⟨hz, rfl⟩⟩
    · skip
      obtain ⟨x, rfl⟩ : ∃ x : Hd, s = Cell.v x := ⟨hd s, o.sl.hd.1.symm⟩
      simp (maxSteps := 1000000) (disch := omega) only [WS, List.getElem_cons_zero, List.getElem_cons_succ, Option.isNone_some, Option.isNone_none, List.getD_cons_zero, List.getD_cons_succ, I.at, atL, atO, atP, evp, evs, retV, ↓reduceIte, Nat.reduceEqDiff, reduceCtorEq, AS]
      refine X_bsl (zs := [x]) (by rfl) (by rfl) fun v w2 ov hB2 => ?_
      simp (maxSteps := 1000000) (disch := omega) only [WS, List.getElem_cons_zero, List.getElem_cons_succ, Option.isNone_some, Option.isNone_none, List.getD_cons_zero, List.getD_cons_succ, I.at, atL, atO, atP, evp, evs, retV, ↓reduceIte, Nat.reduceEqDiff, reduceCtorEq, AS]
      exact ⟨hB.trans (hB2.mono hB.size), [x], fun _ => m, rfl, Rg.of1b o hB2 ov hB.size, Or.inr (Or.inr (Or.inr (Or.inl ⟨rfl, Or.inl ⟨⟨z1, z2⟩, q1, q2⟩⟩))), fun j _ => by show (m).length ≤ _; omega⟩
    · have o : Ow w.heap.size w1 (.slice none 0 0) ([] : List (El 8)) := Ow.nil _ _
      simp (maxSteps := 1000000) (disch := omega) only [WS, List.getElem_cons_zero, List.getElem_cons_succ, Option.isNone_some, Option.isNone_none, List.getD_cons_zero, List.getD_cons_succ, I.at, atL, atO, atP, evp, evs, retV, ↓reduceIte, Nat.reduceEqDiff, reduceCtorEq, AS]
      refine X_bsl (zs := [hdn]) (by rfl) (by rfl) fun v w2 ov hB2 => ?_
      simp (maxSteps := 1000000) (disch := omega) only [WS, List.getElem_cons_zero, List.getElem_cons_succ, Option.isNone_some, Option.isNone_none, List.getD_cons_zero, List.getD_cons_succ, I.at, atL, atO, atP, evp, evs, retV, ↓reduceIte, Nat.reduceEqDiff, reduceCtorEq, AS]
      exact ⟨hB.trans (hB2.mono hB.size), [hdn], fun _ => [], rfl, Rg.of1b o hB2 ov hB.size, Or.inr (Or.inr (Or.inr (Or.inl ⟨rfl, Or.inr ⟨hz, rfl⟩⟩))), fun j _ => by show ([]).length ≤ _; simp⟩
  · simp (maxSteps := 1000000) (disch := omega) only [WS, List.getElem_cons_zero, List.getElem_cons_succ, Option.isNone_some, Option.isNone_none, List.getD_cons_zero, List.getD_cons_succ, I.at, atL, atO, atP, evp, evs, retV, ↓reduceIte, Nat.reduceEqDiff, reduceCtorEq, AS, show decide ((6 : Int) = 1) = false from rfl, show decide ((6 : Int) = 2) = false from rfl, show decide ((6 : Int) = 4) = false from rfl, show decide ((6 : Int) = 5) = false from rfl, show decide ((6 : Int) = 6) = true from rfl, show decide ((6 : Int) = 7) = false from rfl, show decide ((6 : Int) = 8) = false from rfl, show decide ((6 : Int) = 9) = false from rfl]
    refine X_call0 ((polys_Ring_b_DivMod_spec2 w _ s1 s2 l1 l2 hr h1 h2 b1 b2).mono ?_)
    have q0 := tln_le l1
    rintro _ w1 ⟨hB, ⟨z1, z2, z3, sq, sm, q, m, rfl, oq, om, e1, e2, e3, e4, e5, hsep⟩ | ⟨z1, z2, z3, rfl⟩ | ⟨hz, rfl⟩⟩
    · have q2 := tln_le l2
      obtain ⟨x, rfl⟩ : ∃ x : Hd, sq = Cell.v x := ⟨hd sq, oq.sl.hd.1.symm⟩
      obtain ⟨y, rfl⟩ : ∃ x : Hd, sm = Cell.v x := ⟨hd sm, om.sl.hd.1.symm⟩
      simp (maxSteps := 1000000) (disch := omega) only [WS, List.getElem_cons_zero, List.getElem_cons_succ, Option.isNone_some, Option.isNone_none, List.getD_cons_zero, List.getD_cons_succ, I.at, atL, atO, atP, evp, evs, retV, ↓reduceIte, Nat.reduceEqDiff, reduceCtorEq, AS]
      refine X_bsl (zs := [x, y]) (by rfl) (by rfl) fun v w2 ov hB2 => ?_
      simp (maxSteps := 1000000) (disch := omega) only [WS, List.getElem_cons_zero, List.getElem_cons_succ, Option.isNone_some, Option.isNone_none, List.getD_cons_zero, List.getD_cons_succ, I.at, atL, atO, atP, evp, evs, retV, ↓reduceIte, Nat.reduceEqDiff, reduceCtorEq, AS]
      exact ⟨hB.trans (hB2.mono hB.size), [x, y], fun j => if j = 0 then q else m, rfl, Rg.mk' (fun j hj => by obtain rfl | rfl : j = 0 ∨ j = 1 := (by simp at hj; omega) ; exact oq; exact om) (fun i j hi hj b hij hb => by
        obtain ⟨rfl, rfl⟩ | ⟨rfl, rfl⟩ : (i = 0 ∧ j = 1) ∨ (i = 1 ∧ j = 0) := by simp at hi hj; omega
        · exact hsep b hb
        · exact fun hb2 => hsep b hb2 hb) hB2 ov hB.size, Or.inr (Or.inr (Or.inr (Or.inr (Or.inl ⟨rfl, Or.inl ⟨⟨z1, z2, z3⟩, e1, e2, e3, e4⟩⟩)))), fun j hj => by
        show (if j = 0 then q else m : List (El 8)).length ≤ _
        split
        · omega
        · omega⟩
    · have o : Ow w.heap.size w1 (.slice none 0 0) ([] : List (El 8)) := Ow.nil _ _
      have hsep : ∀ b, Fw.blk (.slice none 0 0) = some b → Fw.blk (.slice none 0 0) ≠ some b := fun b hb => by simp [Fw.blk, Value.ownBlock] at hb
      simp (maxSteps := 1000000) (disch := omega) only [WS, List.getElem_cons_zero, List.getElem_cons_succ, Option.isNone_some, Option.isNone_none, List.getD_cons_zero, List.getD_cons_succ, I.at, atL, atO, atP, evp, evs, retV, ↓reduceIte, Nat.reduceEqDiff, reduceCtorEq, AS]
      refine X_bsl (zs := [hdn, hdn]) (by rfl) (by rfl) fun v w2 ov hB2 => ?_
      simp (maxSteps := 1000000) (disch := omega) only [WS, List.getElem_cons_zero, List.getElem_cons_succ, Option.isNone_some, Option.isNone_none, List.getD_cons_zero, List.getD_cons_succ, I.at, atL, atO, atP, evp, evs, retV, ↓reduceIte, Nat.reduceEqDiff, reduceCtorEq, AS]
      exact ⟨hB.trans (hB2.mono hB.size), [hdn, hdn], fun j => if j = 0 then [] else [], rfl, Rg.mk' (fun j hj => by obtain rfl | rfl : j = 0 ∨ j = 1 := (by simp at hj; omega) ; exact o; exact o) (fun i j hi hj b hij hb => by
        obtain ⟨rfl, rfl⟩ | ⟨rfl, rfl⟩ : (i = 0 ∧ j = 1) ∨ (i = 1 ∧ j = 0) := by simp at hi hj; omega
        · exact hsep b hb
        · exact fun hb2 => hsep b hb2 hb) hB2 ov hB.size, Or.inr (Or.inr (Or.inr (Or.inr (Or.inl ⟨rfl, Or.inr ⟨fun e => e.2.2 z3, rfl, rfl⟩⟩)))), fun j hj => by
        show (if j = 0 then [] else [] : List (El 8)).length ≤ _
        split
        · simp
        · simp⟩
    · have o : Ow w.heap.size w1 (.slice none 0 0) ([] : List (El 8)) := Ow.nil _ _
      have hsep : ∀ b, Fw.blk (.slice none 0 0) = some b → Fw.blk (.slice none 0 0) ≠ some b := fun b hb => by simp [Fw.blk, Value.ownBlock] at hb
      simp (maxSteps := 1000000) (disch := omega) only [WS, List.getElem_cons_zero, List.getElem_cons_succ, Option.isNone_some, Option.isNone_none, List.getD_cons_zero, List.getD_cons_succ, I.at, atL, atO, atP, evp, evs, retV, ↓reduceIte, Nat.reduceEqDiff, reduceCtorEq, AS]
      refine X_bsl (zs := [hdn, hdn]) (by rfl) (by rfl) fun v w2 ov hB2 => ?_
      simp (maxSteps := 1000000) (disch := omega) only [WS, List.getElem_cons_zero, List.getElem_cons_succ, Option.isNone_some, Option.isNone_none, List.getD_cons_zero, List.getD_cons_succ, I.at, atL, atO, atP, evp, evs, retV, ↓reduceIte, Nat.reduceEqDiff, reduceCtorEq, AS]
      exact ⟨hB.trans (hB2.mono hB.size), [hdn, hdn], fun j => if j = 0 then [] else [], rfl, Rg.mk' (fun j hj => by obtain rfl | rfl : j = 0 ∨ j = 1 := (by simp at hj; omega) ; exact o; exact o) (fun i j hi hj b hij hb => by
        obtain ⟨rfl, rfl⟩ | ⟨rfl, rfl⟩ : (i = 0 ∧ j = 1) ∨ (i = 1 ∧ j = 0) := by simp at hi hj; omega
        · exact hsep b hb
        · exact fun hb2 => hsep b hb2 hb) hB2 ov hB.size, Or.inr (Or.inr (Or.inr (Or.inr (Or.inl ⟨rfl, Or.inr ⟨fun e => hz ⟨e.1, e.2.1⟩, rfl, rfl⟩⟩)))), fun j hj => by
        show (if j = 0 then [] else [] : List (El 8)).length ≤ _
        split
        · simp
        · simp⟩
  · simp (maxSteps := 1000000) (disch := omega) only [WS, List.getElem_cons_zero, List.getElem_cons_succ, Option.isNone_some, Option.isNone_none, List.getD_cons_zero, List.getD_cons_succ, I.at, atL, atO, atP, evp, evs, retV, ↓reduceIte, Nat.reduceEqDiff, reduceCtorEq, AS, show decide ((7 : Int) = 1) = false from rfl, show decide ((7 : Int) = 2) = false from rfl, show decide ((7 : Int) = 4) = false from rfl, show decide ((7 : Int) = 5) = false from rfl, show decide ((7 : Int) = 6) = false from rfl, show decide ((7 : Int) = 7) = true from rfl, show decide ((7 : Int) = 8) = false from rfl, show decide ((7 : Int) = 9) = false from rfl]
    refine X_call0 ((polys_Ring_b_Gcd_spec w _ s1 s2 l1 l2 hr h1 h2 b1 b2).mono ?_)
    rintro _ w1 ⟨hB, ⟨z1, z2, s, m, rfl, o, q1, q2, q3, q4, q5, q6⟩ | ⟨hz, rfl⟩⟩
    · skip
      obtain ⟨x, rfl⟩ : ∃ x : Hd, s = Cell.v x := ⟨hd s, o.sl.hd.1.symm⟩
      simp (maxSteps := 1000000) (disch := omega) only [WS, List.getElem_cons_zero, List.getElem_cons_succ, Option.isNone_some, Option.isNone_none, List.getD_cons_zero, List.getD_cons_succ, I.at, atL, atO, atP, evp, evs, retV, ↓reduceIte, Nat.reduceEqDiff, reduceCtorEq, AS]
      refine X_bsl (zs := [x]) (by rfl) (by rfl) fun v w2 ov hB2 => ?_
      simp (maxSteps := 1000000) (disch := omega) only [WS, List.getElem_cons_zero, List.getElem_cons_succ, Option.isNone_some, Option.isNone_none, List.getD_cons_zero, List.getD_cons_succ, I.at, atL, atO, atP, evp, evs, retV, ↓reduceIte, Nat.reduceEqDiff, reduceCtorEq, AS]
      exact ⟨hB.trans (hB2.mono hB.size), [x], fun _ => m, rfl, Rg.of1b o hB2 ov hB.size, Or.inr (Or.inr (Or.inr (Or.inr (Or.inr (Or.inl ⟨rfl, Or.inl ⟨⟨z1, z2⟩, q1, q2, q3, q4, q5⟩⟩))))), fun j _ => by show (m).length ≤ _; omega⟩
    · have o : Ow w.heap.size w1 (.slice none 0 0) ([] : List (El 8)) := Ow.nil _ _
      simp (maxSteps := 1000000) (disch := omega) only [WS, List.getElem_cons_zero, List.getElem_cons_succ, Option.isNone_some, Option.isNone_none, List.getD_cons_zero, List.getD_cons_succ, I.at, atL, atO, atP, evp, evs, retV, ↓reduceIte, Nat.reduceEqDiff, reduceCtorEq, AS]
      refine X_bsl (zs := [hdn]) (by rfl) (by rfl) fun v w2 ov hB2 => ?_
      simp (maxSteps := 1000000) (disch := omega) only [WS, List.getElem_cons_zero, List.getElem_cons_succ, Option.isNone_some, Option.isNone_none, List.getD_cons_zero, List.getD_cons_succ, I.at, atL, atO, atP, evp, evs, retV, ↓reduceIte, Nat.reduceEqDiff, reduceCtorEq, AS]
      exact ⟨hB.trans (hB2.mono hB.size), [hdn], fun _ => [], rfl, Rg.of1b o hB2 ov hB.size, Or.inr (Or.inr (Or.inr (Or.inr (Or.inr (Or.inl ⟨rfl, Or.inr ⟨hz, rfl⟩⟩))))), fun j _ => by show ([]).length ≤ _; simp⟩
  · simp (maxSteps := 1000000) (disch := omega) only [WS, List.getElem_cons_zero, List.getElem_cons_succ, Option.isNone_some, Option.isNone_none, List.getD_cons_zero, List.getD_cons_succ, I.at, atL, atO, atP, evp, evs, retV, ↓reduceIte, Nat.reduceEqDiff, reduceCtorEq, AS, show decide ((8 : Int) = 1) = false from rfl, show decide ((8 : Int) = 2) = false from rfl, show decide ((8 : Int) = 4) = false from rfl, show decide ((8 : Int) = 5) = false from rfl, show decide ((8 : Int) = 6) = false from rfl, show decide ((8 : Int) = 7) = false from rfl, show decide ((8 : Int) = 8) = true from rfl, show decide ((8 : Int) = 9) = false from rfl]
    refine X_call0 ((polys_Ring_b_Vanishing_spec w _ s1 l1 hr h1 b1).mono ?_)
    rintro _ w1 ⟨hB, ⟨z1, s, m, rfl, o, q1, q2⟩ | ⟨hz, rfl⟩⟩
    · skip
      obtain ⟨x, rfl⟩ : ∃ x : Hd, s = Cell.v x := ⟨hd s, o.sl.hd.1.symm⟩
      simp (maxSteps := 1000000) (disch := omega) only [WS, List.getElem_cons_zero, List.getElem_cons_succ, Option.isNone_some, Option.isNone_none, List.getD_cons_zero, List.getD_cons_succ, I.at, atL, atO, atP, evp, evs, retV, ↓reduceIte, Nat.reduceEqDiff, reduceCtorEq, AS]
      refine X_bsl (zs := [x]) (by rfl) (by rfl) fun v w2 ov hB2 => ?_
      simp (maxSteps := 1000000) (disch := omega) only [WS, List.getElem_cons_zero, List.getElem_cons_succ, Option.isNone_some, Option.isNone_none, List.getD_cons_zero, List.getD_cons_succ, I.at, atL, atO, atP, evp, evs, retV, ↓reduceIte, Nat.reduceEqDiff, reduceCtorEq, AS]
      exact ⟨hB.trans (hB2.mono hB.size), [x], fun _ => m, rfl, Rg.of1b o hB2 ov hB.size, Or.inr (Or.inr (Or.inr (Or.inr (Or.inr (Or.inr (Or.inl ⟨rfl, Or.inl ⟨z1, q1, q2⟩⟩)))))), fun j _ => by show (m).length ≤ _; omega⟩
    · have o : Ow w.heap.size w1 (.slice none 0 0) ([] : List (El 8)) := Ow.nil _ _
      simp (maxSteps := 1000000) (disch := omega) only [WS, List.getElem_cons_zero, List.getElem_cons_succ, Option.isNone_some, Option.isNone_none, List.getD_cons_zero, List.getD_cons_succ, I.at, atL, atO, atP, evp, evs, retV, ↓reduceIte, Nat.reduceEqDiff, reduceCtorEq, AS]
      refine X_bsl (zs := [hdn]) (by rfl) (by rfl) fun v w2 ov hB2 => ?_
      simp (maxSteps := 1000000) (disch := omega) only [WS, List.getElem_cons_zero, List.getElem_cons_succ, Option.isNone_some, Option.isNone_none, List.getD_cons_zero, List.getD_cons_succ, I.at, atL, atO, atP, evp, evs, retV, ↓reduceIte, Nat.reduceEqDiff, reduceCtorEq, AS]
      exact ⟨hB.trans (hB2.mono hB.size), [hdn], fun _ => [], rfl, Rg.of1b o hB2 ov hB.size, Or.inr (Or.inr (Or.inr (Or.inr (Or.inr (Or.inr (Or.inl ⟨rfl, Or.inr ⟨hz, rfl⟩⟩)))))), fun j _ => by show ([]).length ≤ _; simp⟩
  · simp (maxSteps := 1000000) (disch := omega) only [WS, List.getElem_cons_zero, List.getElem_cons_succ, Option.isNone_some, Option.isNone_none, List.getD_cons_zero, List.getD_cons_succ, I.at, atL, atO, atP, evp, evs, retV, ↓reduceIte, Nat.reduceEqDiff, reduceCtorEq, AS, show decide ((9 : Int) = 1) = false from rfl, show decide ((9 : Int) = 2) = false from rfl, show decide ((9 : Int) = 4) = false from rfl, show decide ((9 : Int) = 5) = false from rfl, show decide ((9 : Int) = 6) = false from rfl, show decide ((9 : Int) = 7) = false from rfl, show decide ((9 : Int) = 8) = false from rfl, show decide ((9 : Int) = 9) = true from rfl]
    refine X_call0 ((polys_Ring_b_Interpolate_spec w _ s1 s2 l1 l2 hr h1 h2 b1 b2).mono ?_)
    rintro _ w1 ⟨hB, ⟨z1, z2, z3, z4, s, m, rfl, o, q1, q2, q3⟩ | ⟨z1, z2, z3, rfl⟩ | ⟨z1, z2, z3, z4, rfl⟩ | ⟨hz, rfl⟩⟩
    · skip
      obtain ⟨x, rfl⟩ : ∃ x : Hd, s = Cell.v x := ⟨hd s, o.sl.hd.1.symm⟩
      simp (maxSteps := 1000000) (disch := omega) only [WS, List.getElem_cons_zero, List.getElem_cons_succ, Option.isNone_some, Option.isNone_none, List.getD_cons_zero, List.getD_cons_succ, I.at, atL, atO, atP, evp, evs, retV, ↓reduceIte, Nat.reduceEqDiff, reduceCtorEq, AS]
      refine X_bsl (zs := [x]) (by rfl) (by rfl) fun v w2 ov hB2 => ?_
      simp (maxSteps := 1000000) (disch := omega) only [WS, List.getElem_cons_zero, List.getElem_cons_succ, Option.isNone_some, Option.isNone_none, List.getD_cons_zero, List.getD_cons_succ, I.at, atL, atO, atP, evp, evs, retV, ↓reduceIte, Nat.reduceEqDiff, reduceCtorEq, AS]
      exact ⟨hB.trans (hB2.mono hB.size), [x], fun _ => m, rfl, Rg.of1b o hB2 ov hB.size, Or.inr (Or.inr (Or.inr (Or.inr (Or.inr (Or.inr (Or.inr (Or.inl ⟨rfl, Or.inl ⟨⟨z1, z2, z3, z4⟩, q1, q2⟩⟩))))))), fun j _ => by show (m).length ≤ _; omega⟩
    · have o : Ow w.heap.size w1 (.slice none 0 0) ([] : List (El 8)) := Ow.nil _ _
      simp (maxSteps := 1000000) (disch := omega) only [WS, List.getElem_cons_zero, List.getElem_cons_succ, Option.isNone_some, Option.isNone_none, List.getD_cons_zero, List.getD_cons_succ, I.at, atL, atO, atP, evp, evs, retV, ↓reduceIte, Nat.reduceEqDiff, reduceCtorEq, AS]
      refine X_bsl (zs := [hdn]) (by rfl) (by rfl) fun v w2 ov hB2 => ?_
      simp (maxSteps := 1000000) (disch := omega) only [WS, List.getElem_cons_zero, List.getElem_cons_succ, Option.isNone_some, Option.isNone_none, List.getD_cons_zero, List.getD_cons_succ, I.at, atL, atO, atP, evp, evs, retV, ↓reduceIte, Nat.reduceEqDiff, reduceCtorEq, AS]
      exact ⟨hB.trans (hB2.mono hB.size), [hdn], fun _ => [], rfl, Rg.of1b o hB2 ov hB.size, Or.inr (Or.inr (Or.inr (Or.inr (Or.inr (Or.inr (Or.inr (Or.inl ⟨rfl, Or.inr ⟨fun e => z3 e.2.2.1, rfl⟩⟩))))))), fun j _ => by show ([]).length ≤ _; simp⟩
    · have o : Ow w.heap.size w1 (.slice none 0 0) ([] : List (El 8)) := Ow.nil _ _
      simp (maxSteps := 1000000) (disch := omega) only [WS, List.getElem_cons_zero, List.getElem_cons_succ, Option.isNone_some, Option.isNone_none, List.getD_cons_zero, List.getD_cons_succ, I.at, atL, atO, atP, evp, evs, retV, ↓reduceIte, Nat.reduceEqDiff, reduceCtorEq, AS]
      refine X_bsl (zs := [hdn]) (by rfl) (by rfl) fun v w2 ov hB2 => ?_
      simp (maxSteps := 1000000) (disch := omega) only [WS, List.getElem_cons_zero, List.getElem_cons_succ, Option.isNone_some, Option.isNone_none, List.getD_cons_zero, List.getD_cons_succ, I.at, atL, atO, atP, evp, evs, retV, ↓reduceIte, Nat.reduceEqDiff, reduceCtorEq, AS]
      exact ⟨hB.trans (hB2.mono hB.size), [hdn], fun _ => [], rfl, Rg.of1b o hB2 ov hB.size, Or.inr (Or.inr (Or.inr (Or.inr (Or.inr (Or.inr (Or.inr (Or.inl ⟨rfl, Or.inr ⟨fun e => z4 e.2.2.2, rfl⟩⟩))))))), fun j _ => by show ([]).length ≤ _; simp⟩
    · have o : Ow w.heap.size w1 (.slice none 0 0) ([] : List (El 8)) := Ow.nil _ _
      simp (maxSteps := 1000000) (disch := omega) only [WS, List.getElem_cons_zero, List.getElem_cons_succ, Option.isNone_some, Option.isNone_none, List.getD_cons_zero, List.getD_cons_succ, I.at, atL, atO, atP, evp, evs, retV, ↓reduceIte, Nat.reduceEqDiff, reduceCtorEq, AS]
      refine X_bsl (zs := [hdn]) (by rfl) (by rfl) fun v w2 ov hB2 => ?_
      simp (maxSteps := 1000000) (disch := omega) only [WS, List.getElem_cons_zero, List.getElem_cons_succ, Option.isNone_some, Option.isNone_none, List.getD_cons_zero, List.getD_cons_succ, I.at, atL, atO, atP, evp, evs, retV, ↓reduceIte, Nat.reduceEqDiff, reduceCtorEq, AS]
      exact ⟨hB.trans (hB2.mono hB.size), [hdn], fun _ => [], rfl, Rg.of1b o hB2 ov hB.size, Or.inr (Or.inr (Or.inr (Or.inr (Or.inr (Or.inr (Or.inr (Or.inl ⟨rfl, Or.inr ⟨fun e => hz ⟨e.1, e.2.1⟩, rfl⟩⟩))))))), fun j _ => by show ([]).length ≤ _; simp⟩
  · simp (maxSteps := 1000000) (disch := omega) only [WS, List.getElem_cons_zero, List.getElem_cons_succ, Option.isNone_some, Option.isNone_none, List.getD_cons_zero, List.getD_cons_succ, I.at, atL, atO, atP, evp, evs, retV, ↓reduceIte, Nat.reduceEqDiff, reduceCtorEq, AS, show decide ((10 : Int) = 1) = false from rfl, show decide ((10 : Int) = 2) = false from rfl, show decide ((10 : Int) = 4) = false from rfl, show decide ((10 : Int) = 5) = false from rfl, show decide ((10 : Int) = 6) = false from rfl, show decide ((10 : Int) = 7) = false from rfl, show decide ((10 : Int) = 8) = false from rfl, show decide ((10 : Int) = 9) = false from rfl]
    refine X_call0 ((polys_Ring_b_Partial_spec2 w _ s1 s2 l1 l2 n hr h1 h2 b1 b2).mono ?_)
    rintro _ w1 ⟨hB, ⟨z1, z2, z3, sm, su, sv, m, u, v', rfl, om, ou, ov', p1, p2, he⟩ | ⟨z1, z2, z3, rfl⟩ | ⟨hz, rfl⟩⟩
    · have q1 := tln_le l1
      have q2 := tln_le l2
      have hl1 := tr_len l1
      have hl2 := tr_len l2
      have qm := he.mlen (N := 1024) (by omega) (by omega)
      obtain ⟨qu, qv, -, -⟩ := he.lens
      obtain ⟨x, rfl⟩ : ∃ x : Hd, sm = Cell.v x := ⟨hd sm, om.sl.hd.1.symm⟩
      obtain ⟨y, rfl⟩ : ∃ x : Hd, su = Cell.v x := ⟨hd su, ou.sl.hd.1.symm⟩
      obtain ⟨z, rfl⟩ : ∃ x : Hd, sv = Cell.v x := ⟨hd sv, ov'.sl.hd.1.symm⟩
      simp (maxSteps := 1000000) (disch := omega) only [WS, List.getElem_cons_zero, List.getElem_cons_succ, Option.isNone_some, Option.isNone_none, List.getD_cons_zero, List.getD_cons_succ, I.at, atL, atO, atP, evp, evs, retV, ↓reduceIte, Nat.reduceEqDiff, reduceCtorEq, AS]
      refine X_bsl (zs := [x, y, z]) (by rfl) (by rfl) fun v w2 ov hB2 => ?_
      simp (maxSteps := 1000000) (disch := omega) only [WS, List.getElem_cons_zero, List.getElem_cons_succ, Option.isNone_some, Option.isNone_none, List.getD_cons_zero, List.getD_cons_succ, I.at, atL, atO, atP, evp, evs, retV, ↓reduceIte, Nat.reduceEqDiff, reduceCtorEq, AS]
      exact ⟨hB.trans (hB2.mono hB.size), [x, y, z], fun j => if j = 0 then m else if j = 1 then u else v', rfl, Rg.mk' (fun j hj => by obtain rfl | rfl | rfl : j = 0 ∨ j = 1 ∨ j = 2 := (by simp at hj; omega) ; exact om; exact ou; exact ov') (fun i j hi hj b hij hb => by
        obtain ⟨rfl, rfl⟩ | ⟨rfl, rfl⟩ | ⟨rfl, rfl⟩ | ⟨rfl, rfl⟩ | ⟨rfl, rfl⟩ | ⟨rfl, rfl⟩ : (i = 0 ∧ j = 1) ∨ (i = 1 ∧ j = 0) ∨ (i = 0 ∧ j = 2) ∨ (i = 2 ∧ j = 0) ∨ (i = 1 ∧ j = 2) ∨ (i = 2 ∧ j = 1) := by simp at hi hj; omega
        · exact fun hb2 => p1 b hb2 hb
        · exact p1 b hb
        · exact fun hb2 => (p2 b hb2).1 hb
        · exact (p2 b hb).1
        · exact fun hb2 => (p2 b hb2).2 hb
        · exact (p2 b hb).2) hB2 ov hB.size, Or.inr (Or.inr (Or.inr (Or.inr (Or.inr (Or.inr (Or.inr (Or.inr (⟨rfl, Or.inl ⟨⟨z1, z2, z3⟩, he⟩⟩)))))))), fun j hj => by
        show (if j = 0 then m else if j = 1 then u else v' : List (El 8)).length ≤ _
        split
        · omega
        · split
          · omega
          · omega⟩
    · have o : Ow w.heap.size w1 (.slice none 0 0) ([] : List (El 8)) := Ow.nil _ _
      have p1 : ∀ b, Fw.blk (.slice none 0 0) = some b → Fw.blk (.slice none 0 0) ≠ some b := fun b hb => by simp [Fw.blk, Value.ownBlock] at hb
      have p2 : ∀ b, Fw.blk (.slice none 0 0) = some b → Fw.blk (.slice none 0 0) ≠ some b ∧ Fw.blk (.slice none 0 0) ≠ some b := fun b hb => by simp [Fw.blk, Value.ownBlock] at hb
      simp (maxSteps := 1000000) (disch := omega) only [WS, List.getElem_cons_zero, List.getElem_cons_succ, Option.isNone_some, Option.isNone_none, List.getD_cons_zero, List.getD_cons_succ, I.at, atL, atO, atP, evp, evs, retV, ↓reduceIte, Nat.reduceEqDiff, reduceCtorEq, AS]
      refine X_bsl (zs := [hdn, hdn, hdn]) (by rfl) (by rfl) fun v w2 ov hB2 => ?_
      simp (maxSteps := 1000000) (disch := omega) only [WS, List.getElem_cons_zero, List.getElem_cons_succ, Option.isNone_some, Option.isNone_none, List.getD_cons_zero, List.getD_cons_succ, I.at, atL, atO, atP, evp, evs, retV, ↓reduceIte, Nat.reduceEqDiff, reduceCtorEq, AS]
      exact ⟨hB.trans (hB2.mono hB.size), [hdn, hdn, hdn], fun j => if j = 0 then [] else if j = 1 then [] else [], rfl, Rg.mk' (fun j hj => by obtain rfl | rfl | rfl : j = 0 ∨ j = 1 ∨ j = 2 := (by simp at hj; omega) ; exact o; exact o; exact o) (fun i j hi hj b hij hb => by
        obtain ⟨rfl, rfl⟩ | ⟨rfl, rfl⟩ | ⟨rfl, rfl⟩ | ⟨rfl, rfl⟩ | ⟨rfl, rfl⟩ | ⟨rfl, rfl⟩ : (i = 0 ∧ j = 1) ∨ (i = 1 ∧ j = 0) ∨ (i = 0 ∧ j = 2) ∨ (i = 2 ∧ j = 0) ∨ (i = 1 ∧ j = 2) ∨ (i = 2 ∧ j = 1) := by simp at hi hj; omega
        · exact fun hb2 => p1 b hb2 hb
        · exact p1 b hb
        · exact fun hb2 => (p2 b hb2).1 hb
        · exact (p2 b hb).1
        · exact fun hb2 => (p2 b hb2).2 hb
        · exact (p2 b hb).2) hB2 ov hB.size, Or.inr (Or.inr (Or.inr (Or.inr (Or.inr (Or.inr (Or.inr (Or.inr (⟨rfl, Or.inr ⟨fun e => absurd e.2.2 (by omega), rfl, rfl, rfl⟩⟩)))))))), fun j hj => by
        show (if j = 0 then [] else if j = 1 then [] else [] : List (El 8)).length ≤ _
        split
        · simp
        · split
          · simp
          · simp⟩
    · have o : Ow w.heap.size w1 (.slice none 0 0) ([] : List (El 8)) := Ow.nil _ _
      have p1 : ∀ b, Fw.blk (.slice none 0 0) = some b → Fw.blk (.slice none 0 0) ≠ some b := fun b hb => by simp [Fw.blk, Value.ownBlock] at hb
      have p2 : ∀ b, Fw.blk (.slice none 0 0) = some b → Fw.blk (.slice none 0 0) ≠ some b ∧ Fw.blk (.slice none 0 0) ≠ some b := fun b hb => by simp [Fw.blk, Value.ownBlock] at hb
      simp (maxSteps := 1000000) (disch := omega) only [WS, List.getElem_cons_zero, List.getElem_cons_succ, Option.isNone_some, Option.isNone_none, List.getD_cons_zero, List.getD_cons_succ, I.at, atL, atO, atP, evp, evs, retV, ↓reduceIte, Nat.reduceEqDiff, reduceCtorEq, AS]
      refine X_bsl (zs := [hdn, hdn, hdn]) (by rfl) (by rfl) fun v w2 ov hB2 => ?_
      simp (maxSteps := 1000000) (disch := omega) only [WS, List.getElem_cons_zero, List.getElem_cons_succ, Option.isNone_some, Option.isNone_none, List.getD_cons_zero, List.getD_cons_succ, I.at, atL, atO, atP, evp, evs, retV, ↓reduceIte, Nat.reduceEqDiff, reduceCtorEq, AS]
      exact ⟨hB.trans (hB2.mono hB.size), [hdn, hdn, hdn], fun j => if j = 0 then [] else if j = 1 then [] else [], rfl, Rg.mk' (fun j hj => by obtain rfl | rfl | rfl : j = 0 ∨ j = 1 ∨ j = 2 := (by simp at hj; omega) ; exact o; exact o; exact o) (fun i j hi hj b hij hb => by
        obtain ⟨rfl, rfl⟩ | ⟨rfl, rfl⟩ | ⟨rfl, rfl⟩ | ⟨rfl, rfl⟩ | ⟨rfl, rfl⟩ | ⟨rfl, rfl⟩ : (i = 0 ∧ j = 1) ∨ (i = 1 ∧ j = 0) ∨ (i = 0 ∧ j = 2) ∨ (i = 2 ∧ j = 0) ∨ (i = 1 ∧ j = 2) ∨ (i = 2 ∧ j = 1) := by simp at hi hj; omega
        · exact fun hb2 => p1 b hb2 hb
        · exact p1 b hb
        · exact fun hb2 => (p2 b hb2).1 hb
        · exact (p2 b hb).1
        · exact fun hb2 => (p2 b hb2).2 hb
        · exact (p2 b hb).2) hB2 ov hB.size, Or.inr (Or.inr (Or.inr (Or.inr (Or.inr (Or.inr (Or.inr (Or.inr (⟨rfl, Or.inr ⟨fun e => hz ⟨e.1, e.2.1⟩, rfl, rfl, rfl⟩⟩)))))))), fun j hj => by
        show (if j = 0 then [] else if j = 1 then [] else [] : List (El 8)).length ≤ _
        split
        · simp
        · split
          · simp
          · simp⟩
end Go.Proofs.Ytcdagkcchfibjaa.Fw
