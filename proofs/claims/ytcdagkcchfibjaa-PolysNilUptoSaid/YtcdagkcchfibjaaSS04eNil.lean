import Derived.Test.YtcdagkcchfibjaaProg
import Derived.Test.YtcdagkcchfibjaaFwTNil
import Derived.Test.YtcdagkcchfibjaaSS04dNil
set_option linter.all false
set_option linter.unusedVariables false
set_option linter.unusedSimpArgs false
set_option maxRecDepth 100000
set_option maxHeartbeats 1000000
namespace Go.Proofs.Ytcdagkcchfibjaa.Fw
open Go Go.Fw Go.Proofs
attribute [local irreducible] stepI
def c_polys_Ring_w_Vanishing : C := .seq (.ops [⟨0, (some 4), none, .mov (.c (.slice none 0 0)), []⟩, ⟨1, (some 5), none, .mov (.c (.int .i64 0)), []⟩]) (.seq (.seq (.ops [⟨0, (some 7), none, .mov (.t 0), []⟩, ⟨1, (some 8), none, .mov (.t 1), []⟩, ⟨2, (some 9), none, .bsl 27 1 [.slice none 0 0] [(0, (1, .t 8))], []⟩, ⟨3, (some 10), none, .call (.c (.func (.func 78) #[] #[])) [.t 7, .t 9], []⟩, ⟨4, (some 6), none, .mov (.t 10), []⟩]) (.seq (.ops [⟨0, (some 11), none, .mov (.t 6), []⟩, ⟨1, (some 12), none, .bin .neq (.t 11) (.c (.int .i64 0)), []⟩]) (.ite (.t 12) (.seq (.ops [⟨0, (some 13), none, .mov (.t 6), []⟩, ⟨1, (some 4), none, .mov (.c (.slice none 0 0)), []⟩, ⟨2, (some 5), none, .mov (.t 13), []⟩]) .ret) .skip))) (.seq (.ops [⟨0, (some 14), none, .mov (.t 0), []⟩, ⟨1, (some 15), none, .mov (.t 1), []⟩, ⟨2, (some 16), none, .call (.c (.func (.func 82) #[] #[])) [.t 14, .t 15], []⟩, ⟨3, (some 4), none, .mov (.t 16), []⟩, ⟨4, (some 5), none, .mov (.c (.int .i64 0)), []⟩]) .ret))
attribute [irreducible] c_polys_Ring_w_Vanishing
theorem run_polys_Ring_w_Vanishing {args : List Value} {w : World} {K : Value → World → Prop} (hn : args.length ≤ 17) (h : WP Try.prog c_polys_Ring_w_Vanishing (endQ [.t 4, .t 5] K) (initT args) w) : CallV Try.prog 42 args w K :=
  call_of follows Try.func42 (by kernel_rfl) (by kernel_rfl) hn h
def c_polys_Ring_b_Vanishing : C := .seq (.ops [⟨0, (some 4), none, .mov (.c (.slice none 0 0)), []⟩, ⟨1, (some 5), none, .mov (.c (.int .i64 0)), []⟩]) (.seq (.seq (.ops [⟨0, (some 7), none, .mov (.t 0), []⟩, ⟨1, (some 8), none, .mov (.t 1), []⟩, ⟨2, (some 9), none, .bsl 57 1 [.slice none 0 0] [(0, (1, .t 8))], []⟩, ⟨3, (some 10), none, .call (.c (.func (.func 80) #[] #[])) [.t 7, .t 9], []⟩, ⟨4, (some 6), none, .mov (.t 10), []⟩]) (.seq (.ops [⟨0, (some 11), none, .mov (.t 6), []⟩, ⟨1, (some 12), none, .bin .neq (.t 11) (.c (.int .i64 0)), []⟩]) (.ite (.t 12) (.seq (.ops [⟨0, (some 13), none, .mov (.t 6), []⟩, ⟨1, (some 4), none, .mov (.c (.slice none 0 0)), []⟩, ⟨2, (some 5), none, .mov (.t 13), []⟩]) .ret) .skip))) (.seq (.ops [⟨0, (some 14), none, .mov (.t 0), []⟩, ⟨1, (some 15), none, .mov (.t 1), []⟩, ⟨2, (some 16), none, .call (.c (.func (.func 83) #[] #[])) [.t 14, .t 15], []⟩, ⟨3, (some 4), none, .mov (.t 16), []⟩, ⟨4, (some 5), none, .mov (.c (.int .i64 0)), []⟩]) .ret))
attribute [irreducible] c_polys_Ring_b_Vanishing
theorem run_polys_Ring_b_Vanishing {args : List Value} {w : World} {K : Value → World → Prop} (hn : args.length ≤ 17) (h : WP Try.prog c_polys_Ring_b_Vanishing (endQ [.t 4, .t 5] K) (initT args) w) : CallV Try.prog 43 args w K :=
  call_of follows Try.func43 (by kernel_rfl) (by kernel_rfl) hn h
end Go.Proofs.Ytcdagkcchfibjaa.Fw
namespace Go.Proofs.Ytcdagkcchfibjaa.Fw
open Go Go.Fw
end Go.Proofs.Ytcdagkcchfibjaa.Fw

namespace Go.Proofs.Ytcdagkcchfibjaa.Fw
open Go Go.Fw
end Go.Proofs.Ytcdagkcchfibjaa.Fw
