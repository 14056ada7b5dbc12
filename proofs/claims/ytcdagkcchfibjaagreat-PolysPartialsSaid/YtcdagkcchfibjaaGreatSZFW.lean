import Derived.Test.YtcdagkcchfibjaaGreatProg
import Derived.Test.YtcdagkcchfibjaaGreatFwTW
import Derived.Test.YtcdagkcchfibjaaGreatSZEW
import Derived.Test.YtcdagkcchfibjaaGreatGfSW
import Derived.Test.YtcdagkcchfibjaaGreatGfEW
set_option linter.all false
set_option linter.unusedVariables false
set_option linter.unusedSimpArgs false
set_option maxRecDepth 100000
set_option maxHeartbeats 1000000
namespace Go.Proofs.YtcdagkcchfibjaaGreat.Fw
open Go Go.Fw Go.Proofs
attribute [local irreducible] stepI
def c_culletref04_Gcd : C := .seq (.ops [⟨0, (some 6), none, .mov (.c (.slice none 0 0)), []⟩, ⟨1, (some 7), none, .mov (.c (.int .i64 0)), []⟩]) (.seq (.seq (.ops [⟨0, (some 14), none, .mov (.t 1), []⟩, ⟨1, (some 15), none, .len (.t 14), []⟩, ⟨2, (some 16), none, .bin .gtr (.t 15) (.c (.int .i64 1024)), []⟩, ⟨3, (some 17), none, .mov (.t 16), []⟩, ⟨4, (some 18), (some (17, false)), .mov (.t 2), []⟩, ⟨5, (some 19), (some (17, false)), .len (.t 18), []⟩, ⟨6, (some 20), (some (17, false)), .bin .gtr (.t 19) (.c (.int .i64 1024)), []⟩, ⟨7, (some 21), none, .pick (.t 17) (.c (.bool true)) (.t 20), []⟩]) (.ite (.t 21) (.seq (.ops [⟨0, (some 6), none, .mov (.c (.slice none 0 0)), []⟩, ⟨1, (some 7), none, .mov (.c (.int .i64 5)), []⟩]) .ret) .skip)) (.seq (.ops [⟨0, (some 22), none, .mov (.t 1), []⟩, ⟨1, (some 23), none, .call (.c (.func (.func 34) #[] #[])) [.t 22], []⟩, ⟨2, (some 8), none, .mov (.t 23), []⟩]) (.seq (.ops [⟨0, (some 24), none, .mov (.t 2), []⟩, ⟨1, (some 25), none, .call (.c (.func (.func 34) #[] #[])) [.t 24], []⟩, ⟨2, (some 9), none, .mov (.t 25), []⟩]) (.seq (.block 0 (.loop (.seq (.seq (.ops [⟨0, (some 26), none, .mov (.t 9), []⟩, ⟨1, (some 27), none, .len (.t 26), []⟩, ⟨2, (some 28), none, .bin .gtr (.t 27) (.c (.int .i64 0)), []⟩]) (.ite (.t 28) .skip (.exit 0))) (.block 1 (.seq (.ops [⟨0, (some 30), none, .mov (.t 0), []⟩, ⟨1, (some 31), none, .mov (.t 8), []⟩, ⟨2, (some 32), none, .mov (.t 9), []⟩, ⟨3, (some 33), none, .call (.c (.func (.func 73) #[] #[])) [.t 30, .t 31, .t 32], []⟩, ⟨4, (some 29), none, .mov (.t 33), []⟩, ⟨5, (some 34), none, .ext (.t 29) 0, []⟩, ⟨6, (some 35), none, .ext (.t 29) 1, []⟩, ⟨7, (some 10), none, .mov (.t 34), []⟩, ⟨8, (some 11), none, .mov (.t 35), []⟩]) (.seq (.ops [⟨0, (some 36), none, .mov (.t 9), []⟩, ⟨1, (some 8), none, .mov (.t 36), []⟩]) (.ops [⟨0, (some 37), none, .mov (.t 11), []⟩, ⟨1, (some 9), none, .mov (.t 37), []⟩]))))))) (.seq (.seq (.ops [⟨0, (some 38), none, .mov (.t 8), []⟩, ⟨1, (some 39), none, .len (.t 38), []⟩, ⟨2, (some 40), none, .bin .eql (.t 39) (.c (.int .i64 0)), []⟩]) (.ite (.t 40) (.seq (.ops [⟨0, (some 41), none, .mov (.t 8), []⟩, ⟨1, (some 6), none, .mov (.t 41), []⟩, ⟨2, (some 7), none, .mov (.c (.int .i64 0)), []⟩]) .ret) .skip)) (.seq (.ops [⟨0, (some 42), none, .mov (.t 0), []⟩, ⟨1, (some 43), none, .mov (.t 8), []⟩, ⟨2, (some 44), none, .mov (.t 8), []⟩, ⟨3, (some 45), none, .len (.t 44), []⟩, ⟨4, (some 46), none, .bin .sub (.t 45) (.c (.int .i64 1)), []⟩, ⟨5, (some 47), none, .ixs 1 (.t 43) (.t 46), []⟩, ⟨6, (some 48), none, .ld (.t 47), []⟩, ⟨7, (some 49), none, .call (.c (.func (.func 74) #[] #[])) [.t 42, .t 48], []⟩, ⟨8, (some 12), none, .mov (.t 49), []⟩]) (.seq (.seq (.ops [⟨0, (some 13), none, .mov (.c (.int .i64 0)), []⟩]) (.block 2 (.loop (.seq (.seq (.ops [⟨0, (some 50), none, .mov (.t 13), []⟩, ⟨1, (some 51), none, .mov (.t 8), []⟩, ⟨2, (some 52), none, .len (.t 51), []⟩, ⟨3, (some 53), none, .bin .lss (.t 50) (.t 52), []⟩]) (.ite (.t 53) .skip (.exit 2))) (.seq (.block 3 (.ops [⟨0, (some 56), none, .mov (.t 8), []⟩, ⟨1, (some 57), none, .mov (.t 13), []⟩, ⟨2, (some 58), none, .mov (.t 0), []⟩, ⟨3, (some 59), none, .mov (.t 8), []⟩, ⟨4, (some 60), none, .mov (.t 13), []⟩, ⟨5, (some 61), none, .ixs 1 (.t 59) (.t 60), []⟩, ⟨6, (some 62), none, .ld (.t 61), []⟩, ⟨7, (some 63), none, .mov (.t 12), []⟩, ⟨8, (some 64), none, .call (.c (.func (.func 67) #[] #[])) [.t 58, .t 62, .t 63], []⟩, ⟨9, (some 65), none, .ixs 1 (.t 56) (.t 57), []⟩, ⟨10, none, none, .st (.t 65) (.t 64), []⟩])) (.ops [⟨0, (some 54), none, .mov (.t 13), []⟩, ⟨1, (some 55), none, .bin .add (.t 54) (.c (.int .i64 1)), []⟩, ⟨2, (some 13), none, .mov (.t 55), []⟩])))))) (.seq (.ops [⟨0, (some 66), none, .mov (.t 8), []⟩, ⟨1, (some 6), none, .mov (.t 66), []⟩, ⟨2, (some 7), none, .mov (.c (.int .i64 0)), []⟩]) .ret))))))))
attribute [irreducible] c_culletref04_Gcd
theorem run_culletref04_Gcd {args : List Value} {w : World} {K : Value → World → Prop} (hn : args.length ≤ 67) (h : WP Tryz.prog c_culletref04_Gcd (endQ [.t 6, .t 7] K) (initT args) w) : CallV Tryz.prog 45 args w K :=
  call_of follows Tryz.func45 (by kernel_rfl) (by kernel_rfl) hn h
def c_culletref04_Partial : C := .seq (.ops [⟨0, (some 8), none, .mov (.c (.slice none 0 0)), []⟩, ⟨1, (some 9), none, .mov (.c (.slice none 0 0)), []⟩, ⟨2, (some 10), none, .mov (.c (.slice none 0 0)), []⟩, ⟨3, (some 11), none, .mov (.c (.int .i64 0)), []⟩]) (.seq (.seq (.ops [⟨0, (some 22), none, .mov (.t 1), []⟩, ⟨1, (some 23), none, .len (.t 22), []⟩, ⟨2, (some 24), none, .bin .gtr (.t 23) (.c (.int .i64 1024)), []⟩, ⟨3, (some 25), none, .mov (.t 24), []⟩, ⟨4, (some 26), (some (25, false)), .mov (.t 2), []⟩, ⟨5, (some 27), (some (25, false)), .len (.t 26), []⟩, ⟨6, (some 28), (some (25, false)), .bin .gtr (.t 27) (.c (.int .i64 1024)), []⟩, ⟨7, (some 29), none, .pick (.t 25) (.c (.bool true)) (.t 28), []⟩]) (.ite (.t 29) (.seq (.ops [⟨0, (some 8), none, .mov (.c (.slice none 0 0)), []⟩, ⟨1, (some 9), none, .mov (.c (.slice none 0 0)), []⟩, ⟨2, (some 10), none, .mov (.c (.slice none 0 0)), []⟩, ⟨3, (some 11), none, .mov (.c (.int .i64 5)), []⟩]) .ret) .skip)) (.seq (.seq (.ops [⟨0, (some 30), none, .mov (.t 3), []⟩, ⟨1, (some 31), none, .bin .lss (.t 30) (.c (.int .i64 0)), []⟩]) (.ite (.t 31) (.seq (.ops [⟨0, (some 8), none, .mov (.c (.slice none 0 0)), []⟩, ⟨1, (some 9), none, .mov (.c (.slice none 0 0)), []⟩, ⟨2, (some 10), none, .mov (.c (.slice none 0 0)), []⟩, ⟨3, (some 11), none, .mov (.c (.int .i64 7)), []⟩]) .ret) .skip)) (.seq (.ops [⟨0, (some 32), none, .mov (.t 1), []⟩, ⟨1, (some 33), none, .call (.c (.func (.func 34) #[] #[])) [.t 32], []⟩, ⟨2, (some 12), none, .mov (.t 33), []⟩]) (.seq (.ops [⟨0, (some 34), none, .mov (.t 2), []⟩, ⟨1, (some 35), none, .call (.c (.func (.func 34) #[] #[])) [.t 34], []⟩, ⟨2, (some 13), none, .mov (.t 35), []⟩]) (.seq (.ops [⟨0, (some 36), none, .bsl 32 1 [.int .u16 0] [(0, (1, .c (.int .u16 1)))], []⟩, ⟨1, (some 14), none, .mov (.t 36), []⟩]) (.seq (.ops [⟨0, (some 37), none, .bsl 32 1 [.int .u16 0] [(0, (1, .c (.int .u16 1)))], []⟩, ⟨1, (some 15), none, .mov (.t 37), []⟩]) (.seq (.ops [⟨0, (some 16), none, .mov (.c (.slice none 0 0)), []⟩, ⟨1, (some 17), none, .mov (.c (.slice none 0 0)), []⟩]) (.seq (.block 0 (.loop (.seq (.seq (.ops [⟨0, (some 38), none, .mov (.t 12), []⟩, ⟨1, (some 39), none, .call (.c (.func (.func 36) #[] #[])) [.t 38], []⟩, ⟨2, (some 40), none, .mov (.t 3), []⟩, ⟨3, (some 41), none, .bin .geq (.t 39) (.t 40), []⟩]) (.ite (.t 41) .skip (.exit 0))) (.block 1 (.seq (.seq (.ops [⟨0, (some 42), none, .mov (.t 13), []⟩, ⟨1, (some 43), none, .len (.t 42), []⟩, ⟨2, (some 44), none, .bin .eql (.t 43) (.c (.int .i64 0)), []⟩]) (.ite (.t 44) (.seq (.ops [⟨0, (some 45), none, .mov (.t 13), []⟩, ⟨1, (some 46), none, .mov (.t 17), []⟩, ⟨2, (some 47), none, .mov (.t 15), []⟩, ⟨3, (some 8), none, .mov (.t 45), []⟩, ⟨4, (some 9), none, .mov (.t 46), []⟩, ⟨5, (some 10), none, .mov (.t 47), []⟩, ⟨6, (some 11), none, .mov (.c (.int .i64 0)), []⟩]) .ret) .skip)) (.seq (.ops [⟨0, (some 49), none, .mov (.t 0), []⟩, ⟨1, (some 50), none, .mov (.t 12), []⟩, ⟨2, (some 51), none, .mov (.t 13), []⟩, ⟨3, (some 52), none, .call (.c (.func (.func 73) #[] #[])) [.t 49, .t 50, .t 51], []⟩, ⟨4, (some 48), none, .mov (.t 52), []⟩, ⟨5, (some 53), none, .ext (.t 48) 0, []⟩, ⟨6, (some 54), none, .ext (.t 48) 1, []⟩, ⟨7, (some 18), none, .mov (.t 53), []⟩, ⟨8, (some 19), none, .mov (.t 54), []⟩]) (.seq (.ops [⟨0, (some 55), none, .mov (.t 14), []⟩, ⟨1, (some 56), none, .mov (.t 0), []⟩, ⟨2, (some 57), none, .mov (.t 18), []⟩, ⟨3, (some 58), none, .mov (.t 17), []⟩, ⟨4, (some 59), none, .call (.c (.func (.func 70) #[] #[])) [.t 56, .t 57, .t 58], []⟩, ⟨5, (some 60), none, .call (.c (.func (.func 38) #[] #[])) [.t 55, .t 59], []⟩, ⟨6, (some 20), none, .mov (.t 60), []⟩]) (.seq (.ops [⟨0, (some 61), none, .mov (.t 16), []⟩, ⟨1, (some 62), none, .mov (.t 0), []⟩, ⟨2, (some 63), none, .mov (.t 18), []⟩, ⟨3, (some 64), none, .mov (.t 15), []⟩, ⟨4, (some 65), none, .call (.c (.func (.func 70) #[] #[])) [.t 62, .t 63, .t 64], []⟩, ⟨5, (some 66), none, .call (.c (.func (.func 38) #[] #[])) [.t 61, .t 65], []⟩, ⟨6, (some 21), none, .mov (.t 66), []⟩]) (.seq (.ops [⟨0, (some 67), none, .mov (.t 13), []⟩, ⟨1, (some 12), none, .mov (.t 67), []⟩]) (.seq (.ops [⟨0, (some 68), none, .mov (.t 17), []⟩, ⟨1, (some 14), none, .mov (.t 68), []⟩]) (.seq (.ops [⟨0, (some 69), none, .mov (.t 15), []⟩, ⟨1, (some 16), none, .mov (.t 69), []⟩]) (.seq (.ops [⟨0, (some 70), none, .mov (.t 19), []⟩, ⟨1, (some 13), none, .mov (.t 70), []⟩]) (.seq (.ops [⟨0, (some 71), none, .mov (.t 20), []⟩, ⟨1, (some 17), none, .mov (.t 71), []⟩]) (.ops [⟨0, (some 72), none, .mov (.t 21), []⟩, ⟨1, (some 15), none, .mov (.t 72), []⟩])))))))))))))) (.seq (.ops [⟨0, (some 73), none, .mov (.t 12), []⟩, ⟨1, (some 74), none, .mov (.t 14), []⟩, ⟨2, (some 75), none, .mov (.t 16), []⟩, ⟨3, (some 8), none, .mov (.t 73), []⟩, ⟨4, (some 9), none, .mov (.t 74), []⟩, ⟨5, (some 10), none, .mov (.t 75), []⟩, ⟨6, (some 11), none, .mov (.c (.int .i64 0)), []⟩]) .ret)))))))))
attribute [irreducible] c_culletref04_Partial
theorem run_culletref04_Partial {args : List Value} {w : World} {K : Value → World → Prop} (hn : args.length ≤ 76) (h : WP Tryz.prog c_culletref04_Partial (endQ [.t 8, .t 9, .t 10, .t 11] K) (initT args) w) : CallV Tryz.prog 53 args w K :=
  call_of follows Tryz.func53 (by kernel_rfl) (by kernel_rfl) hn h
end Go.Proofs.YtcdagkcchfibjaaGreat.Fw
namespace Go.Proofs.YtcdagkcchfibjaaGreat.Fw
open Go Go.Fw
theorem culletref04_Addx_w_spec (w : World) (s1 s2 : Value) (l1 l2 : List (El 16)) (h1 : Sl w s1 (l1.map em16)) (h2 : Sl w s2 (l2.map em16)) (hb1 : l1.length ≤ 70368744175616) (hb2 : l2.length ≤ 70368744175616) :
    CallV Tryz.prog 38 [s1, s2] w fun v w' => ∃ l : List (El 16), Ow w.heap.size w' v (l.map em16) ∧ tr l = l ∧ co l = co l1 + co l2 ∧ l.length ≤ max l1.length l2.length ∧ RowKit.Below w.heap.size w w' := by
  have hm1 : (l1.map em16).length = l1.length := List.length_map ..
  have hm2 : (l2.map em16).length = l2.length := List.length_map ..
  refine (culletref04_Add_spec w s1 s2 _ _ h1 h2 (by omega) (by omega)).mono ?_
  rintro v w' ⟨l, ol, tl, cl, ll, hB⟩
  obtain ⟨l0, hl0, hc0⟩ : ∃ l0 : List (El 16), l0.length = l.length ∧ co l0 = co l1 + co l2 := by
    refine ⟨ofc l.length (co l1 + co l2), ofc_len _ _, ofc_co fun k hk => ?_⟩
    have h3 : (co l).c k = 0 := co_dg l k hk
    rw [cl, Ps.add_c, co_em16, co_em16, em16_add] at h3
    rw [Ps.add_c]
    exact (em16_eq0 _).mp h3
  have hl : l = l0.map em16 := co_ext (by rw [List.length_map, hl0]) (Ps.ext fun k => by rw [cl, Ps.add_c, co_em16, co_em16, em16_add, co_em16, hc0, Ps.add_c])
  subst hl
  have ht0 : tr l0 = l0 := by rw [tr_em16] at tl; exact em16_map_inj tl
  rw [List.length_map, hm1, hm2] at ll
  exact ⟨l0, ol, ht0, hc0, ll, hB⟩
end Go.Proofs.YtcdagkcchfibjaaGreat.Fw

namespace Go.Proofs.YtcdagkcchfibjaaGreat.Fw
open Go Go.Fw
theorem culletref04_Addx_b_spec (w : World) (s1 s2 : Value) (l1 l2 : List (El 8)) (h1 : Sl w s1 (l1.map em8)) (h2 : Sl w s2 (l2.map em8)) (hb1 : l1.length ≤ 70368744175616) (hb2 : l2.length ≤ 70368744175616) :
    CallV Tryz.prog 38 [s1, s2] w fun v w' => ∃ l : List (El 8), Ow w.heap.size w' v (l.map em8) ∧ tr l = l ∧ co l = co l1 + co l2 ∧ l.length ≤ max l1.length l2.length ∧ RowKit.Below w.heap.size w w' := by
  have hm1 : (l1.map em8).length = l1.length := List.length_map ..
  have hm2 : (l2.map em8).length = l2.length := List.length_map ..
  refine (culletref04_Add_spec w s1 s2 _ _ h1 h2 (by omega) (by omega)).mono ?_
  rintro v w' ⟨l, ol, tl, cl, ll, hB⟩
  obtain ⟨l0, hl0, hc0⟩ : ∃ l0 : List (El 8), l0.length = l.length ∧ co l0 = co l1 + co l2 := by
    refine ⟨ofc l.length (co l1 + co l2), ofc_len _ _, ofc_co fun k hk => ?_⟩
    have h3 : (co l).c k = 0 := co_dg l k hk
    rw [cl, Ps.add_c, co_em8, co_em8, em8_add] at h3
    rw [Ps.add_c]
    exact (em8_eq0 _).mp h3
  have hl : l = l0.map em8 := co_ext (by rw [List.length_map, hl0]) (Ps.ext fun k => by rw [cl, Ps.add_c, co_em8, co_em8, em8_add, co_em8, hc0, Ps.add_c])
  subst hl
  have ht0 : tr l0 = l0 := by rw [tr_em8] at tl; exact em8_map_inj tl
  rw [List.length_map, hm1, hm2] at ll
  exact ⟨l0, ol, ht0, hc0, ll, hB⟩
end Go.Proofs.YtcdagkcchfibjaaGreat.Fw

namespace Go.Proofs.YtcdagkcchfibjaaGreat.Fw
open Go Go.Fw
theorem culletref04_Gcd_w_spec (w : World) (s1 s2 : Value) (l1 l2 : List (El 16)) (h1 : Sl w s1 (l1.map em16)) (h2 : Sl w s2 (l2.map em16)) (hb1 : l1.length ≤ 70368744175616) (hb2 : l2.length ≤ 70368744175616) :
    CallV Tryz.prog 45 [.bool true, s1, s2] w fun v w' => RowKit.Below w.heap.size w w' ∧
      ((l1.length ≤ 1024 ∧ l2.length ≤ 1024 ∧ ∃ (s : Value) (m : List (El 16)), v = .tuple #[s, .int .i64 0] ∧ Ow w.heap.size w' s (m.map em16) ∧ tr m = m ∧ Dv (co m) (co l1) ∧ Dv (co m) (co l2) ∧ (∃ a b, Pol a ∧ Pol b ∧ co m = a * co l1 + b * co l2) ∧ (m ≠ [] → (co m).c (m.length - 1) = 1) ∧ m.length ≤ max l1.length l2.length) ∨
       (¬ (l1.length ≤ 1024 ∧ l2.length ≤ 1024) ∧ v = .tuple #[.slice none 0 0, .int .i64 5])) := by
  refine run_culletref04_Gcd (by simp) ?_
  simp only [c_culletref04_Gcd, WS, List.getElem_cons_zero, List.getElem_cons_succ, Option.isNone_some, Option.isNone_none, List.getD_cons_zero, List.getD_cons_succ, I.at, atL, atO, atP, evp, evs, retV, ↓reduceIte, Nat.reduceEqDiff, reduceCtorEq]
  have hm1 : (l1.map em16).length = l1.length := List.length_map ..
  have hm2 : (l2.map em16).length = l2.length := List.length_map ..
  by_cases c1 : 1024 < l1.length
  · simp (maxSteps := 1000000) (disch := omega) only [WS, List.getElem_cons_zero, List.getElem_cons_succ, Option.isNone_some, Option.isNone_none, List.getD_cons_zero, List.getD_cons_succ, I.at, atL, atO, atP, evp, evs, retV, ↓reduceIte, Nat.reduceEqDiff, reduceCtorEq, AS, h1.Xlen, hm1]
    exact ⟨RowKit.Below.refl _ _, Or.inr (by omega)⟩
  by_cases c2 : 1024 < l2.length
  · simp (maxSteps := 1000000) (disch := omega) only [WS, List.getElem_cons_zero, List.getElem_cons_succ, Option.isNone_some, Option.isNone_none, List.getD_cons_zero, List.getD_cons_succ, I.at, atL, atO, atP, evp, evs, retV, ↓reduceIte, Nat.reduceEqDiff, reduceCtorEq, AS, h1.Xlen, h2.Xlen, hm1, hm2]
    exact ⟨RowKit.Below.refl _ _, Or.inr (by omega)⟩
  simp (maxSteps := 1000000) (disch := omega) only [WS, List.getElem_cons_zero, List.getElem_cons_succ, Option.isNone_some, Option.isNone_none, List.getD_cons_zero, List.getD_cons_succ, I.at, atL, atO, atP, evp, evs, retV, ↓reduceIte, Nat.reduceEqDiff, reduceCtorEq, AS, h1.Xlen, h2.Xlen, hm1, hm2]
  refine X_call0 ((culletref04_Trim_spec w s1 (l1.map em16) h1 (by omega)).mono ?_)
  rintro sa w1 ⟨oa, hB⟩
  have B := hB
  have h2 := h2.up hB
  clear hB
  simp (maxSteps := 1000000) (disch := omega) only [WS, List.getElem_cons_zero, List.getElem_cons_succ, Option.isNone_some, Option.isNone_none, List.getD_cons_zero, List.getD_cons_succ, I.at, atL, atO, atP, evp, evs, retV, ↓reduceIte, Nat.reduceEqDiff, reduceCtorEq, AS]
  refine X_call0 ((culletref04_Trim_spec w1 s2 (l2.map em16) h2 (by omega)).mono ?_)
  rintro sb w2 ⟨ob, hB⟩
  have ob := ob.mono B.size
  have oa := oa.up hB
  have B := B.trans (hB.mono B.size)
  clear hB
  rw [tr_em16] at oa ob
  have q1 := tln_le l1
  have q2 := tln_le l2
  simp (maxSteps := 1000000) (disch := omega) only [WS, List.getElem_cons_zero, List.getElem_cons_succ, Option.isNone_some, Option.isNone_none, List.getD_cons_zero, List.getD_cons_succ, I.at, atL, atO, atP, evp, evs, retV, ↓reduceIte, Nat.reduceEqDiff, reduceCtorEq, AS]
  refine loop_of (fun t w' => t 0 = .bool true ∧ RowKit.Below w.heap.size w w' ∧ ∃ (sa sb : Value) (la lb : List (El 16)), t 8 = sa ∧ t 9 = sb ∧ Ow w.heap.size w' sa (la.map em16) ∧ Ow w.heap.size w' sb (lb.map em16) ∧ tr la = la ∧ tr lb = lb ∧
        (∃ p q, Pol p ∧ Pol q ∧ co la = p * co l1 + q * co l2) ∧ (∃ p q, Pol p ∧ Pol q ∧ co lb = p * co l1 + q * co l2) ∧ (∀ d, Dv d (co la) → Dv d (co lb) → Dv d (co l1) ∧ Dv d (co l2)) ∧ la.length ≤ max l1.length l2.length ∧ lb.length ≤ max l1.length l2.length)
      (fun t w' => match t 9 with | .slice _ n _ => n | _ => 0) ⟨by simp only [WS, List.getElem_cons_zero, List.getElem_cons_succ, Option.isNone_some, Option.isNone_none, List.getD_cons_zero, List.getD_cons_succ, I.at, atL, atO, atP, evp, evs, retV, ↓reduceIte, Nat.reduceEqDiff, reduceCtorEq], B, sa, sb, tr l1, tr l2, by simp only [WS, List.getElem_cons_zero, List.getElem_cons_succ, Option.isNone_some, Option.isNone_none, List.getD_cons_zero, List.getD_cons_succ, I.at, atL, atO, atP, evp, evs, retV, ↓reduceIte, Nat.reduceEqDiff, reduceCtorEq], by simp only [WS, List.getElem_cons_zero, List.getElem_cons_succ, Option.isNone_some, Option.isNone_none, List.getD_cons_zero, List.getD_cons_succ, I.at, atL, atO, atP, evp, evs, retV, ↓reduceIte, Nat.reduceEqDiff, reduceCtorEq], oa, ob, tr_tr l1, tr_tr l2,
        ⟨1, 0, Pol.one, Pol.zero, by rw [tr_co, Ps.one_mul, Ps.zero_mul, Ps.add_zero]⟩, ⟨0, 1, Pol.zero, Pol.one, by rw [tr_co, Ps.one_mul, Ps.zero_mul, Ps.zero_add]⟩, fun d h3 h4 => by rw [tr_co] at h3 h4; exact ⟨h3, h4⟩, by rw [tr_len]; omega, by rw [tr_len]; omega⟩ ?_
  clear oa ob B
  rintro t w4 ⟨t0, B, sa, sb, la, lb, t8, t9, oa, ob, ta, tb, ⟨p, q, hp, hq, hla⟩, ⟨p', q', hp', hq', hlb⟩, hdv, hna, hnb⟩
  have hma : (la.map em16).length = la.length := List.length_map ..
  have hmb : (lb.map em16).length = lb.length := List.length_map ..
  by_cases hz : lb.length = 0
  · obtain rfl : lb = [] := List.eq_nil_of_length_eq_zero hz
    obtain ⟨d1, d2⟩ := hdv (co la) (Dv.refl _) (Dv.zero _)
    by_cases hza : la.length = 0
    · obtain rfl : la = [] := List.eq_nil_of_length_eq_zero hza
      simp (maxSteps := 1000000) (disch := omega) only [WS, List.getElem_cons_zero, List.getElem_cons_succ, Option.isNone_some, Option.isNone_none, List.getD_cons_zero, List.getD_cons_succ, I.at, atL, atO, atP, evp, evs, retV, ↓reduceIte, Nat.reduceEqDiff, reduceCtorEq, AS, t0, t8, t9, ob.sl.Xlen, oa.sl.Xlen, hma, hmb, hza, hz, show decide ((0 : Int) < ((0 : Nat) : Int)) = false from rfl, show decide (((0 : Nat) : Int) = 0) = true from rfl]
      exact ⟨B, Or.inl ⟨by omega, by omega, sa, [], rfl, oa, rfl, d1, d2, ⟨p, q, hp, hq, hla⟩, fun h => absurd rfl h, by simp⟩⟩
    · have hal := len_tr ta
      obtain ⟨j, hj⟩ : ∃ j, la.length = j + 1 := ⟨la.length - 1, by omega⟩
      have hjl : j < la.length := by omega
      have hjm : j < (la.map em16).length := by omega
      have hgj : (la.map em16)[j] = em16 la[j] := List.getElem_map ..
      have htop : la[j] ≠ 0 := by rw [← co_get la hjl]; exact tln_top la j (by omega)
      have wj : IntKind.i64.wrap ((la.length : Int) - 1) = (j : Int) := by rw [wrap_id (by omega) (by omega)]; omega
      have hnz : ¬ ((la.length : Int) = 0) := by omega
      simp (maxSteps := 1000000) only [WS, List.getElem_cons_zero, List.getElem_cons_succ, Option.isNone_some, Option.isNone_none, List.getD_cons_zero, List.getD_cons_succ, I.at, atL, atO, atP, evp, evs, retV, ↓reduceIte, Nat.reduceEqDiff, reduceCtorEq, t0, t8, t9, ob.sl.Xlen, oa.sl.Xlen, hma, hmb, hz, show decide ((0 : Int) < ((0 : Nat) : Int)) = false from rfl, decide_eq_false hnz, wj, oa.sl.Xix hjm, oa.sl.Xld hjm, hgj, cell_e16]
      refine X_call0 ((culletref04_inverse_w_spec w4 la[j] htop).mono ?_)
      rintro _ w5 ⟨rfl, rfl⟩
      generalize hc : (la[j]).inv = c
      have hgc : la[j] * c = 1 := by rw [← hc]; exact El.mul_inv _ htop
      simp (maxSteps := 1000000) (disch := omega) only [WS, List.getElem_cons_zero, List.getElem_cons_succ, Option.isNone_some, Option.isNone_none, List.getD_cons_zero, List.getD_cons_succ, I.at, atL, atO, atP, evp, evs, retV, ↓reduceIte, Nat.reduceEqDiff, reduceCtorEq, AS, t0, t8, t9]
      refine loop_of (fun t w' => t 0 = .bool true ∧ t 8 = sa ∧ t 12 = .int .u16 ((em16 c).v.toNat : Int) ∧ RowKit.Below w.heap.size w w' ∧ ∃ (i : Nat) (ms : List (El 16)), t 13 = .int .i64 (i : Int) ∧ i ≤ la.length ∧ Ow w.heap.size w' sa (ms.map em16) ∧ ms.length = la.length ∧ ∀ k, (co ms).c k = if k < i then (co la).c k * c else (co la).c k)
          (fun t _ => la.length - (toI (t 13)).toNat) ⟨by simp only [WS, List.getElem_cons_zero, List.getElem_cons_succ, Option.isNone_some, Option.isNone_none, List.getD_cons_zero, List.getD_cons_succ, I.at, atL, atO, atP, evp, evs, retV, ↓reduceIte, Nat.reduceEqDiff, reduceCtorEq]; exact t0, by simp only [WS, List.getElem_cons_zero, List.getElem_cons_succ, Option.isNone_some, Option.isNone_none, List.getD_cons_zero, List.getD_cons_succ, I.at, atL, atO, atP, evp, evs, retV, ↓reduceIte, Nat.reduceEqDiff, reduceCtorEq]; exact t8, by simp only [WS, List.getElem_cons_zero, List.getElem_cons_succ, Option.isNone_some, Option.isNone_none, List.getD_cons_zero, List.getD_cons_succ, I.at, atL, atO, atP, evp, evs, retV, ↓reduceIte, Nat.reduceEqDiff, reduceCtorEq], B, 0, la, rfl, by omega, oa, rfl, fun k => by rw [if_neg (by omega)]⟩ ?_
      clear t0 t8 t9 oa B
      rintro t w6 ⟨t0, t8, t12, B, i, ms, t13, hi, oa, hms, hmc⟩
      have hmms : (ms.map em16).length = la.length := by rw [List.length_map, hms]
      by_cases hil : i < la.length
      · have him : i < ms.length := by omega
        have himm : i < (ms.map em16).length := by omega
        have hgi : (ms.map em16)[i] = em16 ms[i] := List.getElem_map ..
        simp (maxSteps := 1000000) (disch := omega) only [WS, List.getElem_cons_zero, List.getElem_cons_succ, Option.isNone_some, Option.isNone_none, List.getD_cons_zero, List.getD_cons_succ, I.at, atL, atO, atP, evp, evs, retV, ↓reduceIte, Nat.reduceEqDiff, reduceCtorEq, AS, t0, t8, t12, t13, oa.sl.Xlen, hmms, oa.sl.Xix himm, oa.sl.Xld himm, hgi, cell_e16]
        refine X_call0 ((culletref04_timesx_w_spec w6 ms[i] c).mono ?_)
        rintro _ w7 ⟨rfl, rfl⟩
        simp (maxSteps := 1000000) (disch := omega) only [WS, List.getElem_cons_zero, List.getElem_cons_succ, Option.isNone_some, Option.isNone_none, List.getD_cons_zero, List.getD_cons_succ, I.at, atL, atO, atP, evp, evs, retV, ↓reduceIte, Nat.reduceEqDiff, reduceCtorEq, AS, t0, t8, t12, t13, oa.sl.Xix himm]
        refine oa.Xst himm (em16 (ms[i] * c)) fun w8 oa8 hg8 => ?_
        rw [← List.map_set] at oa8
        simp (maxSteps := 1000000) (disch := omega) only [WS, List.getElem_cons_zero, List.getElem_cons_succ, Option.isNone_some, Option.isNone_none, List.getD_cons_zero, List.getD_cons_succ, I.at, atL, atO, atP, evp, evs, retV, ↓reduceIte, Nat.reduceEqDiff, reduceCtorEq, AS, t0, t8, t12, t13]
        refine ⟨⟨B.grown hg8 B.size fun k hk => (oa.blk k hk).1, i + 1, _, rfl, by omega, oa8, by simp [hms], fun k => ?_⟩, by omega⟩
        rw [co_set _ him, hmc k]
        by_cases hk : k = i
        · subst hk
          have := hmc k
          rw [if_neg (by omega), co_get ms him] at this
          rw [if_pos rfl, if_pos (by omega), this]
        · rw [if_neg hk]
          by_cases hki : k < i
          · rw [if_pos hki, if_pos (by omega)]
          · rw [if_neg hki, if_neg (by omega)]
      · obtain rfl : i = la.length := by omega
        have hco : co ms = Ps.C c * co la := Ps.ext fun k => by
          rw [hmc k, Ps.C_mul]
          by_cases hk : k < la.length
          · rw [if_pos hk, El.mul_comm]
          · rw [if_neg hk, co_dg la k (by omega), El.mul_zero]
        have hback : co la = Ps.C la[j] * co ms := Ps.ext fun k => by
          rw [hco, Ps.C_mul, Ps.C_mul, ← El.mul_assoc, hgc, El.one_mul]
        have htop1 : (co ms).c (ms.length - 1) = 1 := by
          rw [hco, Ps.C_mul, hms, hj, Nat.add_sub_cancel, co_get la hjl, El.mul_comm, hgc]
        have htr : tr ms = ms := by
          have : tln ms = ms.length := tln_of (co_dg ms) (Or.inr (by rw [htop1]; exact El.one_ne))
          unfold tr; rw [this, List.take_length]
        have hdm : Dv (co ms) (co la) := ⟨_, Pol.C _, hback⟩
        simp (maxSteps := 1000000) (disch := omega) only [WS, List.getElem_cons_zero, List.getElem_cons_succ, Option.isNone_some, Option.isNone_none, List.getD_cons_zero, List.getD_cons_succ, I.at, atL, atO, atP, evp, evs, retV, ↓reduceIte, Nat.reduceEqDiff, reduceCtorEq, AS, t0, t8, t12, t13, oa.sl.Xlen, hmms]
        exact ⟨B, Or.inl ⟨by omega, by omega, sa, ms, rfl, oa, htr, hdm.trans d1, hdm.trans d2, ⟨Ps.C c * p, Ps.C c * q, (Pol.C c).mul hp, (Pol.C c).mul hq, by rw [hco, hla, Ps.mul_add, Ps.mul_assoc, Ps.mul_assoc]⟩, fun _ => htop1, by omega⟩⟩
  · have hlen := len_tr tb
    have hlna := len_tr ta
    simp (maxSteps := 1000000) (disch := omega) only [WS, List.getElem_cons_zero, List.getElem_cons_succ, Option.isNone_some, Option.isNone_none, List.getD_cons_zero, List.getD_cons_succ, I.at, atL, atO, atP, evp, evs, retV, ↓reduceIte, Nat.reduceEqDiff, reduceCtorEq, AS, t0, t8, t9, ob.sl.Xlen, hmb]
    refine X_call0 ((culletref04_divide_w_spec w4 sa sb la lb oa.sl ob.sl (by omega) (by omega) (by omega)).mono ?_)
    rintro _ w5 ⟨sq, sm, qq, m, rfl, oq, om, tq, tm, hco, hml, hml2, hql, hB⟩
    have hm : co m = co la + co qq * co lb := by rw [hco]; generalize co qq * co lb = A; rw [show A + co m + A = co m + (A + A) by ac_rfl, Ps.add_self, Ps.add_zero]
    have om := om.mono B.size
    have ob := ob.up hB
    have B := B.trans (hB.mono B.size)
    clear hB
    simp (maxSteps := 1000000) (disch := omega) only [WS, List.getElem_cons_zero, List.getElem_cons_succ, Option.isNone_some, Option.isNone_none, List.getD_cons_zero, List.getD_cons_succ, I.at, atL, atO, atP, evp, evs, retV, ↓reduceIte, Nat.reduceEqDiff, reduceCtorEq, AS, t0, t8, t9]
    refine ⟨⟨B, sb, sm, lb, m, rfl, rfl, ob, om, tb, tm, ⟨p', q', hp', hq', hlb⟩, ⟨p + co qq * p', q + co qq * q', hp.add ((Pol.of qq).mul hp'), hq.add ((Pol.of qq).mul hq'), ?_⟩, fun d h3 h4 => ?_, hnb, by omega⟩, ?_⟩
    · rw [hm, hla, hlb, Ps.mul_add, Ps.add_mul, Ps.add_mul, Ps.mul_assoc, Ps.mul_assoc]; ac_rfl
    · exact hdv d (by rw [hco]; exact (h3.mul (Pol.of qq)).add h4) h3
    · obtain ⟨a1, c1, e3, -, -⟩ := om.sl.sh
      obtain ⟨a2, c2, e4, -, -⟩ := ob.sl.sh
      rw [e3, e4, List.length_map, List.length_map]
      show m.length < lb.length
      omega
theorem culletref04_Partial_w_spec (w : World) (s1 s2 : Value) (l1 l2 : List (El 16)) (d : Int) (h1 : Sl w s1 (l1.map em16)) (h2 : Sl w s2 (l2.map em16)) (hb1 : l1.length ≤ 70368744175616) (hb2 : l2.length ≤ 70368744175616) :
    CallV Tryz.prog 53 [.bool true, s1, s2, .int .i64 d] w fun v w' => RowKit.Below w.heap.size w w' ∧
      ((l1.length ≤ 1024 ∧ l2.length ≤ 1024 ∧ 0 ≤ d ∧ ∃ (sm su sv : Value) (m u v' : List (El 16)), v = .tuple #[sm, su, sv, .int .i64 0] ∧ Ow w.heap.size w' sm (m.map em16) ∧ Ow w.heap.size w' su (u.map em16) ∧ Ow w.heap.size w' sv (v'.map em16) ∧ Eu d.toNat (tr l1) (tr l2) [1] [] [] [1] m u v') ∨
       (l1.length ≤ 1024 ∧ l2.length ≤ 1024 ∧ d < 0 ∧ v = .tuple #[.slice none 0 0, .slice none 0 0, .slice none 0 0, .int .i64 7]) ∨
       (¬ (l1.length ≤ 1024 ∧ l2.length ≤ 1024) ∧ v = .tuple #[.slice none 0 0, .slice none 0 0, .slice none 0 0, .int .i64 5])) := by
  refine run_culletref04_Partial (by simp) ?_
  simp only [c_culletref04_Partial, WS, List.getElem_cons_zero, List.getElem_cons_succ, Option.isNone_some, Option.isNone_none, List.getD_cons_zero, List.getD_cons_succ, I.at, atL, atO, atP, evp, evs, retV, ↓reduceIte, Nat.reduceEqDiff, reduceCtorEq]
  have hm1 : (l1.map em16).length = l1.length := List.length_map ..
  have hm2 : (l2.map em16).length = l2.length := List.length_map ..
  by_cases c1 : 1024 < l1.length
  · simp (maxSteps := 1000000) (disch := omega) only [WS, List.getElem_cons_zero, List.getElem_cons_succ, Option.isNone_some, Option.isNone_none, List.getD_cons_zero, List.getD_cons_succ, I.at, atL, atO, atP, evp, evs, retV, ↓reduceIte, Nat.reduceEqDiff, reduceCtorEq, AS, h1.Xlen, hm1]
    exact ⟨RowKit.Below.refl _ _, Or.inr (Or.inr (by omega))⟩
  by_cases c2 : 1024 < l2.length
  · simp (maxSteps := 1000000) (disch := omega) only [WS, List.getElem_cons_zero, List.getElem_cons_succ, Option.isNone_some, Option.isNone_none, List.getD_cons_zero, List.getD_cons_succ, I.at, atL, atO, atP, evp, evs, retV, ↓reduceIte, Nat.reduceEqDiff, reduceCtorEq, AS, h1.Xlen, h2.Xlen, hm1, hm2]
    exact ⟨RowKit.Below.refl _ _, Or.inr (Or.inr (by omega))⟩
  by_cases hd0 : d < 0
  · simp (maxSteps := 1000000) (disch := omega) only [WS, List.getElem_cons_zero, List.getElem_cons_succ, Option.isNone_some, Option.isNone_none, List.getD_cons_zero, List.getD_cons_succ, I.at, atL, atO, atP, evp, evs, retV, ↓reduceIte, Nat.reduceEqDiff, reduceCtorEq, AS, h1.Xlen, h2.Xlen, hm1, hm2]
    exact ⟨RowKit.Below.refl _ _, Or.inr (Or.inl ⟨by omega, by omega, hd0⟩)⟩
  obtain ⟨D, rfl⟩ : ∃ D : Nat, d = (D : Int) := ⟨d.toNat, by omega⟩
  rw [Int.toNat_natCast]
  simp (maxSteps := 1000000) (disch := omega) only [WS, List.getElem_cons_zero, List.getElem_cons_succ, Option.isNone_some, Option.isNone_none, List.getD_cons_zero, List.getD_cons_succ, I.at, atL, atO, atP, evp, evs, retV, ↓reduceIte, Nat.reduceEqDiff, reduceCtorEq, AS, h1.Xlen, h2.Xlen, hm1, hm2]
  refine X_call0 ((culletref04_Trim_spec w s1 (l1.map em16) h1 (by omega)).mono ?_)
  rintro sa w1 ⟨oa, hB⟩
  have B := hB
  have h2 := h2.up hB
  clear hB
  simp (maxSteps := 1000000) (disch := omega) only [WS, List.getElem_cons_zero, List.getElem_cons_succ, Option.isNone_some, Option.isNone_none, List.getD_cons_zero, List.getD_cons_succ, I.at, atL, atO, atP, evp, evs, retV, ↓reduceIte, Nat.reduceEqDiff, reduceCtorEq, AS]
  refine X_call0 ((culletref04_Trim_spec w1 s2 (l2.map em16) h2 (by omega)).mono ?_)
  rintro sb w2 ⟨ob, hB⟩
  have ob := ob.mono B.size
  have oa := oa.up hB
  have B := B.trans (hB.mono B.size)
  clear hB
  rw [tr_em16] at oa ob
  have q1 := tln_le l1
  have q2 := tln_le l2
  simp (maxSteps := 1000000) (disch := omega) only [WS, List.getElem_cons_zero, List.getElem_cons_succ, Option.isNone_some, Option.isNone_none, List.getD_cons_zero, List.getD_cons_succ, I.at, atL, atO, atP, evp, evs, retV, ↓reduceIte, Nat.reduceEqDiff, reduceCtorEq, AS]
  refine X_bsl (zs := [(em16 (1 : El 16))]) (by rfl) (by rfl) fun su w3 ou hB => ?_
  have ou := ou.mono B.size
  have oa := oa.up hB
  have ob := ob.up hB
  have B := B.trans (hB.mono B.size)
  clear hB
  simp (maxSteps := 1000000) (disch := omega) only [WS, List.getElem_cons_zero, List.getElem_cons_succ, Option.isNone_some, Option.isNone_none, List.getD_cons_zero, List.getD_cons_succ, I.at, atL, atO, atP, evp, evs, retV, ↓reduceIte, Nat.reduceEqDiff, reduceCtorEq, AS]
  refine X_bsl (zs := [(em16 (1 : El 16))]) (by rfl) (by rfl) fun st w4 ot hB => ?_
  have ot := ot.mono B.size
  have oa := oa.up hB
  have ob := ob.up hB
  have ou := ou.up hB
  have B := B.trans (hB.mono B.size)
  clear hB
  have n1 := tr_len l1
  have n2 := tr_len l2
  simp (maxSteps := 1000000) (disch := omega) only [WS, List.getElem_cons_zero, List.getElem_cons_succ, Option.isNone_some, Option.isNone_none, List.getD_cons_zero, List.getD_cons_succ, I.at, atL, atO, atP, evp, evs, retV, ↓reduceIte, Nat.reduceEqDiff, reduceCtorEq, AS]
  refine loop_of (fun t w' => t 0 = .bool true ∧ t 3 = .int .i64 (D : Int) ∧ RowKit.Below w.heap.size w w' ∧ ∃ (sa sb su sv ss st : Value) (la lb lu lv ls lt : List (El 16)), t 12 = sa ∧ t 13 = sb ∧ t 14 = su ∧ t 16 = sv ∧ t 17 = ss ∧ t 15 = st ∧
        Ow w.heap.size w' sa (la.map em16) ∧ Ow w.heap.size w' sb (lb.map em16) ∧ Ow w.heap.size w' su (lu.map em16) ∧ Ow w.heap.size w' sv (lv.map em16) ∧ Ow w.heap.size w' ss (ls.map em16) ∧ Ow w.heap.size w' st (lt.map em16) ∧ tr la = la ∧ tr lb = lb ∧ tr lu = lu ∧ tr lv = lv ∧ tr ls = ls ∧ tr lt = lt ∧ la.length ≤ 1024 ∧ lb.length ≤ 1024 ∧
        lu.length + 1025 * lb.length ≤ 1101024 ∧ ls.length + 1025 * lb.length ≤ 1100000 ∧ lv.length + 1025 * lb.length ≤ 1101024 ∧ lt.length + 1025 * lb.length ≤ 1100000 ∧
        ∀ x y z, Eu D la lb lu lv ls lt x y z → Eu D (tr l1) (tr l2) [1] [] [] [1] x y z)
      (fun t w' => match t 13 with | .slice _ n _ => n | _ => 0) ⟨by simp only [WS, List.getElem_cons_zero, List.getElem_cons_succ, Option.isNone_some, Option.isNone_none, List.getD_cons_zero, List.getD_cons_succ, I.at, atL, atO, atP, evp, evs, retV, ↓reduceIte, Nat.reduceEqDiff, reduceCtorEq], by simp only [WS, List.getElem_cons_zero, List.getElem_cons_succ, Option.isNone_some, Option.isNone_none, List.getD_cons_zero, List.getD_cons_succ, I.at, atL, atO, atP, evp, evs, retV, ↓reduceIte, Nat.reduceEqDiff, reduceCtorEq], B, sa, sb, su, _, _, st, tr l1, tr l2, [1], [], [], [1], by simp only [WS, List.getElem_cons_zero, List.getElem_cons_succ, Option.isNone_some, Option.isNone_none, List.getD_cons_zero, List.getD_cons_succ, I.at, atL, atO, atP, evp, evs, retV, ↓reduceIte, Nat.reduceEqDiff, reduceCtorEq], by simp only [WS, List.getElem_cons_zero, List.getElem_cons_succ, Option.isNone_some, Option.isNone_none, List.getD_cons_zero, List.getD_cons_succ, I.at, atL, atO, atP, evp, evs, retV, ↓reduceIte, Nat.reduceEqDiff, reduceCtorEq], by simp only [WS, List.getElem_cons_zero, List.getElem_cons_succ, Option.isNone_some, Option.isNone_none, List.getD_cons_zero, List.getD_cons_succ, I.at, atL, atO, atP, evp, evs, retV, ↓reduceIte, Nat.reduceEqDiff, reduceCtorEq], by simp only [WS, List.getElem_cons_zero, List.getElem_cons_succ, Option.isNone_some, Option.isNone_none, List.getD_cons_zero, List.getD_cons_succ, I.at, atL, atO, atP, evp, evs, retV, ↓reduceIte, Nat.reduceEqDiff, reduceCtorEq], by simp only [WS, List.getElem_cons_zero, List.getElem_cons_succ, Option.isNone_some, Option.isNone_none, List.getD_cons_zero, List.getD_cons_succ, I.at, atL, atO, atP, evp, evs, retV, ↓reduceIte, Nat.reduceEqDiff, reduceCtorEq], by simp only [WS, List.getElem_cons_zero, List.getElem_cons_succ, Option.isNone_some, Option.isNone_none, List.getD_cons_zero, List.getD_cons_succ, I.at, atL, atO, atP, evp, evs, retV, ↓reduceIte, Nat.reduceEqDiff, reduceCtorEq], oa, ob, ou, Ow.nil _ _, Ow.nil _ _, ot, tr_tr l1, tr_tr l2, tr_one, tr_nil, tr_nil, tr_one,
        by omega, by omega, by simp; omega, by simp; omega, by simp; omega, by simp; omega, fun x y z h => h⟩ ?_
  clear oa ob ou ot B
  rintro t w6 ⟨t0, t3, B6, sa, sb, su, sv, ss, st, la, lb, lu, lv, ls, lt, t12, t13, t14, t16, t17, t15, oa, ob, ou, ov, os, ot, ta, tb, tu, tv, ts, tt, na, nb, nu, ns, nv, nt, hE⟩
  have hlna := len_tr ta
  have hma : (la.map em16).length = la.length := List.length_map ..
  have hmb : (lb.map em16).length = lb.length := List.length_map ..
  have hmu : (lu.map em16).length = lu.length := List.length_map ..
  have hmv : (lv.map em16).length = lv.length := List.length_map ..
  simp (maxSteps := 1000000) (disch := omega) only [WS, List.getElem_cons_zero, List.getElem_cons_succ, Option.isNone_some, Option.isNone_none, List.getD_cons_zero, List.getD_cons_succ, I.at, atL, atO, atP, evp, evs, retV, ↓reduceIte, Nat.reduceEqDiff, reduceCtorEq, AS, t0, t3, t12, t13, t14, t15, t16, t17]
  refine X_call0 ((culletref04_Degree_spec w6 sa (la.map em16) oa.sl (by omega)).mono ?_)
  rintro _ w6 ⟨rfl, rfl⟩
  rw [tln_em16x, ← hlna]
  by_cases hda : D < la.length
  · have hge : ((D : Int) ≤ (la.length : Int) - 1) := by omega
    by_cases hz : lb.length = 0
    · obtain rfl : lb = [] := List.eq_nil_of_length_eq_zero hz
      simp (maxSteps := 1000000) only [WS, List.getElem_cons_zero, List.getElem_cons_succ, Option.isNone_some, Option.isNone_none, List.getD_cons_zero, List.getD_cons_succ, I.at, atL, atO, atP, evp, evs, retV, ↓reduceIte, Nat.reduceEqDiff, reduceCtorEq, t0, t3, t12, t13, t14, t15, t16, t17, decide_eq_true hge, ob.sl.Xlen, hmb, hz, show decide (((0 : Nat) : Int) = 0) = true from rfl]
      exact ⟨B6, Or.inl ⟨by omega, by omega, by omega, sb, ss, st, [], ls, lt, rfl, ob, os, ot, hE _ _ _ (Eu.zero hda)⟩⟩
    · have hlen := len_tr tb
      have hnz : ¬ ((lb.length : Int) = 0) := by omega
      simp (maxSteps := 1000000) only [WS, List.getElem_cons_zero, List.getElem_cons_succ, Option.isNone_some, Option.isNone_none, List.getD_cons_zero, List.getD_cons_succ, I.at, atL, atO, atP, evp, evs, retV, ↓reduceIte, Nat.reduceEqDiff, reduceCtorEq, t0, t3, t12, t13, t14, t15, t16, t17, decide_eq_true hge, ob.sl.Xlen, hmb, decide_eq_false hnz]
      refine X_call0 ((culletref04_divide_w_spec w6 sa sb la lb oa.sl ob.sl (by omega) (by omega) (by omega)).mono ?_)
      rintro _ w7 ⟨sq, sm, qq, m, rfl, oq, om, tq, tm, hco, hml, -, hql, hB⟩
      have oq := oq.mono B6.size
      have om := om.mono B6.size
      have ob := ob.up hB
      have ou := ou.up hB
      have ov := ov.up hB
      have os := os.up hB
      have ot := ot.up hB
      have B6 := B6.trans (hB.mono B6.size)
      clear hB
      simp (maxSteps := 1000000) (disch := omega) only [WS, List.getElem_cons_zero, List.getElem_cons_succ, Option.isNone_some, Option.isNone_none, List.getD_cons_zero, List.getD_cons_succ, I.at, atL, atO, atP, evp, evs, retV, ↓reduceIte, Nat.reduceEqDiff, reduceCtorEq, AS, t0, t3, t12, t13, t14, t15, t16, t17]
      refine X_call0 ((culletref04_product_w_spec w7 sq ss qq ls oq.sl os.sl (by omega) (by omega)).mono ?_)
      rintro sp w8 ⟨lp, op, tp, cp, np, hB⟩
      have op := op.mono B6.size
      have ob := ob.up hB
      have ou := ou.up hB
      have ov := ov.up hB
      have os := os.up hB
      have ot := ot.up hB
      have oq := oq.up hB
      have om := om.up hB
      have B6 := B6.trans (hB.mono B6.size)
      clear hB
      have hmp : (lp.map em16).length = lp.length := List.length_map ..
      simp (maxSteps := 1000000) (disch := omega) only [WS, List.getElem_cons_zero, List.getElem_cons_succ, Option.isNone_some, Option.isNone_none, List.getD_cons_zero, List.getD_cons_succ, I.at, atL, atO, atP, evp, evs, retV, ↓reduceIte, Nat.reduceEqDiff, reduceCtorEq, AS, t0, t3, t12, t13, t14, t15, t16, t17]
      refine X_call0 ((culletref04_Addx_w_spec w8 su sp lu lp ou.sl op.sl (by omega) (by omega)).mono ?_)
      rintro su' w9 ⟨lu', ou', tu', cu', nu', hB⟩
      have ou' := ou'.mono B6.size
      have ob := ob.up hB
      have ov := ov.up hB
      have os := os.up hB
      have ot := ot.up hB
      have oq := oq.up hB
      have om := om.up hB
      have B6 := B6.trans (hB.mono B6.size)
      clear hB
      simp (maxSteps := 1000000) (disch := omega) only [WS, List.getElem_cons_zero, List.getElem_cons_succ, Option.isNone_some, Option.isNone_none, List.getD_cons_zero, List.getD_cons_succ, I.at, atL, atO, atP, evp, evs, retV, ↓reduceIte, Nat.reduceEqDiff, reduceCtorEq, AS, t0, t3, t12, t13, t14, t15, t16, t17]
      refine X_call0 ((culletref04_product_w_spec w9 sq st qq lt oq.sl ot.sl (by omega) (by omega)).mono ?_)
      rintro sp2 w10 ⟨lp2, op2, tp2, cp2, np2, hB⟩
      have op2 := op2.mono B6.size
      have ob := ob.up hB
      have ov := ov.up hB
      have os := os.up hB
      have ot := ot.up hB
      have om := om.up hB
      have ou' := ou'.up hB
      have B6 := B6.trans (hB.mono B6.size)
      clear hB
      simp (maxSteps := 1000000) (disch := omega) only [WS, List.getElem_cons_zero, List.getElem_cons_succ, Option.isNone_some, Option.isNone_none, List.getD_cons_zero, List.getD_cons_succ, I.at, atL, atO, atP, evp, evs, retV, ↓reduceIte, Nat.reduceEqDiff, reduceCtorEq, AS, t0, t3, t12, t13, t14, t15, t16, t17]
      refine X_call0 ((culletref04_Addx_w_spec w10 sv sp2 lv lp2 ov.sl op2.sl (by omega) (by omega)).mono ?_)
      rintro sv' w11 ⟨lv', ov', tv', cv', nv', hB⟩
      have ov' := ov'.mono B6.size
      have ob := ob.up hB
      have os := os.up hB
      have ot := ot.up hB
      have om := om.up hB
      have ou' := ou'.up hB
      have B6 := B6.trans (hB.mono B6.size)
      clear hB
      simp (maxSteps := 1000000) (disch := omega) only [WS, List.getElem_cons_zero, List.getElem_cons_succ, Option.isNone_some, Option.isNone_none, List.getD_cons_zero, List.getD_cons_succ, I.at, atL, atO, atP, evp, evs, retV, ↓reduceIte, Nat.reduceEqDiff, reduceCtorEq, AS, t0, t3, t12, t13, t14, t15, t16, t17]
      refine ⟨⟨B6, sb, sm, ss, st, su', sv', lb, m, ls, lt, lu', lv', rfl, rfl, rfl, rfl, rfl, rfl, ob, om, os, ot, ou', ov', tb, tm, ts, tt, tu', tv', nb, by omega, by omega, by omega, by omega, by omega, fun x y z h => hE _ _ _ ?_⟩, ?_⟩
      · exact Eu.step hda (by rintro rfl; simp at hz) tq tm hco (by omega) tu' (by rw [cu', cp]) tv' (by rw [cv', cp2]) h
      · obtain ⟨a1, c1, e3, -, -⟩ := om.sl.sh
        obtain ⟨a2, c2, e4, -, -⟩ := ob.sl.sh
        rw [e3, e4, List.length_map, List.length_map]
        show m.length < lb.length
        omega
  · have hge : ¬ ((D : Int) ≤ (la.length : Int) - 1) := by omega
    simp (maxSteps := 1000000) only [WS, List.getElem_cons_zero, List.getElem_cons_succ, Option.isNone_some, Option.isNone_none, List.getD_cons_zero, List.getD_cons_succ, I.at, atL, atO, atP, evp, evs, retV, ↓reduceIte, Nat.reduceEqDiff, reduceCtorEq, t0, t3, t12, t13, t14, t15, t16, t17, decide_eq_false hge]
    exact ⟨B6, Or.inl ⟨by omega, by omega, by omega, sa, su, sv, la, lu, lv, rfl, oa, ou, ov, hE _ _ _ (Eu.stop (by omega))⟩⟩
end Go.Proofs.YtcdagkcchfibjaaGreat.Fw

namespace Go.Proofs.YtcdagkcchfibjaaGreat.Fw
open Go Go.Fw
theorem culletref04_Gcd_b_spec (w : World) (s1 s2 : Value) (l1 l2 : List (El 8)) (h1 : Sl w s1 (l1.map em8)) (h2 : Sl w s2 (l2.map em8)) (hb1 : l1.length ≤ 70368744175616) (hb2 : l2.length ≤ 70368744175616) :
    CallV Tryz.prog 45 [.bool false, s1, s2] w fun v w' => RowKit.Below w.heap.size w w' ∧
      ((l1.length ≤ 1024 ∧ l2.length ≤ 1024 ∧ ∃ (s : Value) (m : List (El 8)), v = .tuple #[s, .int .i64 0] ∧ Ow w.heap.size w' s (m.map em8) ∧ tr m = m ∧ Dv (co m) (co l1) ∧ Dv (co m) (co l2) ∧ (∃ a b, Pol a ∧ Pol b ∧ co m = a * co l1 + b * co l2) ∧ (m ≠ [] → (co m).c (m.length - 1) = 1) ∧ m.length ≤ max l1.length l2.length) ∨
       (¬ (l1.length ≤ 1024 ∧ l2.length ≤ 1024) ∧ v = .tuple #[.slice none 0 0, .int .i64 5])) := by
  refine run_culletref04_Gcd (by simp) ?_
  simp only [c_culletref04_Gcd, WS, List.getElem_cons_zero, List.getElem_cons_succ, Option.isNone_some, Option.isNone_none, List.getD_cons_zero, List.getD_cons_succ, I.at, atL, atO, atP, evp, evs, retV, ↓reduceIte, Nat.reduceEqDiff, reduceCtorEq]
  have hm1 : (l1.map em8).length = l1.length := List.length_map ..
  have hm2 : (l2.map em8).length = l2.length := List.length_map ..
  by_cases c1 : 1024 < l1.length
  · simp (maxSteps := 1000000) (disch := omega) only [WS, List.getElem_cons_zero, List.getElem_cons_succ, Option.isNone_some, Option.isNone_none, List.getD_cons_zero, List.getD_cons_succ, I.at, atL, atO, atP, evp, evs, retV, ↓reduceIte, Nat.reduceEqDiff, reduceCtorEq, AS, h1.Xlen, hm1]
    exact ⟨RowKit.Below.refl _ _, Or.inr (by omega)⟩
  by_cases c2 : 1024 < l2.length
  · simp (maxSteps := 1000000) (disch := omega) only [WS, List.getElem_cons_zero, List.getElem_cons_succ, Option.isNone_some, Option.isNone_none, List.getD_cons_zero, List.getD_cons_succ, I.at, atL, atO, atP, evp, evs, retV, ↓reduceIte, Nat.reduceEqDiff, reduceCtorEq, AS, h1.Xlen, h2.Xlen, hm1, hm2]
    exact ⟨RowKit.Below.refl _ _, Or.inr (by omega)⟩
  simp (maxSteps := 1000000) (disch := omega) only [WS, List.getElem_cons_zero, List.getElem_cons_succ, Option.isNone_some, Option.isNone_none, List.getD_cons_zero, List.getD_cons_succ, I.at, atL, atO, atP, evp, evs, retV, ↓reduceIte, Nat.reduceEqDiff, reduceCtorEq, AS, h1.Xlen, h2.Xlen, hm1, hm2]
  refine X_call0 ((culletref04_Trim_spec w s1 (l1.map em8) h1 (by omega)).mono ?_)
  rintro sa w1 ⟨oa, hB⟩
  have B := hB
  have h2 := h2.up hB
  clear hB
  simp (maxSteps := 1000000) (disch := omega) only [WS, List.getElem_cons_zero, List.getElem_cons_succ, Option.isNone_some, Option.isNone_none, List.getD_cons_zero, List.getD_cons_succ, I.at, atL, atO, atP, evp, evs, retV, ↓reduceIte, Nat.reduceEqDiff, reduceCtorEq, AS]
  refine X_call0 ((culletref04_Trim_spec w1 s2 (l2.map em8) h2 (by omega)).mono ?_)
  rintro sb w2 ⟨ob, hB⟩
  have ob := ob.mono B.size
  have oa := oa.up hB
  have B := B.trans (hB.mono B.size)
  clear hB
  rw [tr_em8] at oa ob
  have q1 := tln_le l1
  have q2 := tln_le l2
  simp (maxSteps := 1000000) (disch := omega) only [WS, List.getElem_cons_zero, List.getElem_cons_succ, Option.isNone_some, Option.isNone_none, List.getD_cons_zero, List.getD_cons_succ, I.at, atL, atO, atP, evp, evs, retV, ↓reduceIte, Nat.reduceEqDiff, reduceCtorEq, AS]
  refine loop_of (fun t w' => t 0 = .bool false ∧ RowKit.Below w.heap.size w w' ∧ ∃ (sa sb : Value) (la lb : List (El 8)), t 8 = sa ∧ t 9 = sb ∧ Ow w.heap.size w' sa (la.map em8) ∧ Ow w.heap.size w' sb (lb.map em8) ∧ tr la = la ∧ tr lb = lb ∧
        (∃ p q, Pol p ∧ Pol q ∧ co la = p * co l1 + q * co l2) ∧ (∃ p q, Pol p ∧ Pol q ∧ co lb = p * co l1 + q * co l2) ∧ (∀ d, Dv d (co la) → Dv d (co lb) → Dv d (co l1) ∧ Dv d (co l2)) ∧ la.length ≤ max l1.length l2.length ∧ lb.length ≤ max l1.length l2.length)
      (fun t w' => match t 9 with | .slice _ n _ => n | _ => 0) ⟨by simp only [WS, List.getElem_cons_zero, List.getElem_cons_succ, Option.isNone_some, Option.isNone_none, List.getD_cons_zero, List.getD_cons_succ, I.at, atL, atO, atP, evp, evs, retV, ↓reduceIte, Nat.reduceEqDiff, reduceCtorEq], B, sa, sb, tr l1, tr l2, by simp only [WS, List.getElem_cons_zero, List.getElem_cons_succ, Option.isNone_some, Option.isNone_none, List.getD_cons_zero, List.getD_cons_succ, I.at, atL, atO, atP, evp, evs, retV, ↓reduceIte, Nat.reduceEqDiff, reduceCtorEq], by simp only [WS, List.getElem_cons_zero, List.getElem_cons_succ, Option.isNone_some, Option.isNone_none, List.getD_cons_zero, List.getD_cons_succ, I.at, atL, atO, atP, evp, evs, retV, ↓reduceIte, Nat.reduceEqDiff, reduceCtorEq], oa, ob, tr_tr l1, tr_tr l2,
        ⟨1, 0, Pol.one, Pol.zero, by rw [tr_co, Ps.one_mul, Ps.zero_mul, Ps.add_zero]⟩, ⟨0, 1, Pol.zero, Pol.one, by rw [tr_co, Ps.one_mul, Ps.zero_mul, Ps.zero_add]⟩, fun d h3 h4 => by rw [tr_co] at h3 h4; exact ⟨h3, h4⟩, by rw [tr_len]; omega, by rw [tr_len]; omega⟩ ?_
  clear oa ob B
  rintro t w4 ⟨t0, B, sa, sb, la, lb, t8, t9, oa, ob, ta, tb, ⟨p, q, hp, hq, hla⟩, ⟨p', q', hp', hq', hlb⟩, hdv, hna, hnb⟩
  have hma : (la.map em8).length = la.length := List.length_map ..
  have hmb : (lb.map em8).length = lb.length := List.length_map ..
  by_cases hz : lb.length = 0
  · obtain rfl : lb = [] := List.eq_nil_of_length_eq_zero hz
    obtain ⟨d1, d2⟩ := hdv (co la) (Dv.refl _) (Dv.zero _)
    by_cases hza : la.length = 0
    · obtain rfl : la = [] := List.eq_nil_of_length_eq_zero hza
      simp (maxSteps := 1000000) (disch := omega) only [WS, List.getElem_cons_zero, List.getElem_cons_succ, Option.isNone_some, Option.isNone_none, List.getD_cons_zero, List.getD_cons_succ, I.at, atL, atO, atP, evp, evs, retV, ↓reduceIte, Nat.reduceEqDiff, reduceCtorEq, AS, t0, t8, t9, ob.sl.Xlen, oa.sl.Xlen, hma, hmb, hza, hz, show decide ((0 : Int) < ((0 : Nat) : Int)) = false from rfl, show decide (((0 : Nat) : Int) = 0) = true from rfl]
      exact ⟨B, Or.inl ⟨by omega, by omega, sa, [], rfl, oa, rfl, d1, d2, ⟨p, q, hp, hq, hla⟩, fun h => absurd rfl h, by simp⟩⟩
    · have hal := len_tr ta
      obtain ⟨j, hj⟩ : ∃ j, la.length = j + 1 := ⟨la.length - 1, by omega⟩
      have hjl : j < la.length := by omega
      have hjm : j < (la.map em8).length := by omega
      have hgj : (la.map em8)[j] = em8 la[j] := List.getElem_map ..
      have htop : la[j] ≠ 0 := by rw [← co_get la hjl]; exact tln_top la j (by omega)
      have wj : IntKind.i64.wrap ((la.length : Int) - 1) = (j : Int) := by rw [wrap_id (by omega) (by omega)]; omega
      have hnz : ¬ ((la.length : Int) = 0) := by omega
      simp (maxSteps := 1000000) only [WS, List.getElem_cons_zero, List.getElem_cons_succ, Option.isNone_some, Option.isNone_none, List.getD_cons_zero, List.getD_cons_succ, I.at, atL, atO, atP, evp, evs, retV, ↓reduceIte, Nat.reduceEqDiff, reduceCtorEq, t0, t8, t9, ob.sl.Xlen, oa.sl.Xlen, hma, hmb, hz, show decide ((0 : Int) < ((0 : Nat) : Int)) = false from rfl, decide_eq_false hnz, wj, oa.sl.Xix hjm, oa.sl.Xld hjm, hgj, cell_e16]
      refine X_call0 ((culletref04_inverse_b_spec w4 la[j] htop).mono ?_)
      rintro _ w5 ⟨rfl, rfl⟩
      generalize hc : (la[j]).inv = c
      have hgc : la[j] * c = 1 := by rw [← hc]; exact El.mul_inv _ htop
      simp (maxSteps := 1000000) (disch := omega) only [WS, List.getElem_cons_zero, List.getElem_cons_succ, Option.isNone_some, Option.isNone_none, List.getD_cons_zero, List.getD_cons_succ, I.at, atL, atO, atP, evp, evs, retV, ↓reduceIte, Nat.reduceEqDiff, reduceCtorEq, AS, t0, t8, t9]
      refine loop_of (fun t w' => t 0 = .bool false ∧ t 8 = sa ∧ t 12 = .int .u16 ((em8 c).v.toNat : Int) ∧ RowKit.Below w.heap.size w w' ∧ ∃ (i : Nat) (ms : List (El 8)), t 13 = .int .i64 (i : Int) ∧ i ≤ la.length ∧ Ow w.heap.size w' sa (ms.map em8) ∧ ms.length = la.length ∧ ∀ k, (co ms).c k = if k < i then (co la).c k * c else (co la).c k)
          (fun t _ => la.length - (toI (t 13)).toNat) ⟨by simp only [WS, List.getElem_cons_zero, List.getElem_cons_succ, Option.isNone_some, Option.isNone_none, List.getD_cons_zero, List.getD_cons_succ, I.at, atL, atO, atP, evp, evs, retV, ↓reduceIte, Nat.reduceEqDiff, reduceCtorEq]; exact t0, by simp only [WS, List.getElem_cons_zero, List.getElem_cons_succ, Option.isNone_some, Option.isNone_none, List.getD_cons_zero, List.getD_cons_succ, I.at, atL, atO, atP, evp, evs, retV, ↓reduceIte, Nat.reduceEqDiff, reduceCtorEq]; exact t8, by simp only [WS, List.getElem_cons_zero, List.getElem_cons_succ, Option.isNone_some, Option.isNone_none, List.getD_cons_zero, List.getD_cons_succ, I.at, atL, atO, atP, evp, evs, retV, ↓reduceIte, Nat.reduceEqDiff, reduceCtorEq], B, 0, la, rfl, by omega, oa, rfl, fun k => by rw [if_neg (by omega)]⟩ ?_
      clear t0 t8 t9 oa B
      rintro t w6 ⟨t0, t8, t12, B, i, ms, t13, hi, oa, hms, hmc⟩
      have hmms : (ms.map em8).length = la.length := by rw [List.length_map, hms]
      by_cases hil : i < la.length
      · have him : i < ms.length := by omega
        have himm : i < (ms.map em8).length := by omega
        have hgi : (ms.map em8)[i] = em8 ms[i] := List.getElem_map ..
        simp (maxSteps := 1000000) (disch := omega) only [WS, List.getElem_cons_zero, List.getElem_cons_succ, Option.isNone_some, Option.isNone_none, List.getD_cons_zero, List.getD_cons_succ, I.at, atL, atO, atP, evp, evs, retV, ↓reduceIte, Nat.reduceEqDiff, reduceCtorEq, AS, t0, t8, t12, t13, oa.sl.Xlen, hmms, oa.sl.Xix himm, oa.sl.Xld himm, hgi, cell_e16]
        refine X_call0 ((culletref04_timesx_b_spec w6 ms[i] c).mono ?_)
        rintro _ w7 ⟨rfl, rfl⟩
        simp (maxSteps := 1000000) (disch := omega) only [WS, List.getElem_cons_zero, List.getElem_cons_succ, Option.isNone_some, Option.isNone_none, List.getD_cons_zero, List.getD_cons_succ, I.at, atL, atO, atP, evp, evs, retV, ↓reduceIte, Nat.reduceEqDiff, reduceCtorEq, AS, t0, t8, t12, t13, oa.sl.Xix himm]
        refine oa.Xst himm (em8 (ms[i] * c)) fun w8 oa8 hg8 => ?_
        rw [← List.map_set] at oa8
        simp (maxSteps := 1000000) (disch := omega) only [WS, List.getElem_cons_zero, List.getElem_cons_succ, Option.isNone_some, Option.isNone_none, List.getD_cons_zero, List.getD_cons_succ, I.at, atL, atO, atP, evp, evs, retV, ↓reduceIte, Nat.reduceEqDiff, reduceCtorEq, AS, t0, t8, t12, t13]
        refine ⟨⟨B.grown hg8 B.size fun k hk => (oa.blk k hk).1, i + 1, _, rfl, by omega, oa8, by simp [hms], fun k => ?_⟩, by omega⟩
        rw [co_set _ him, hmc k]
        by_cases hk : k = i
        · subst hk
          have := hmc k
          rw [if_neg (by omega), co_get ms him] at this
          rw [if_pos rfl, if_pos (by omega), this]
        · rw [if_neg hk]
          by_cases hki : k < i
          · rw [if_pos hki, if_pos (by omega)]
          · rw [if_neg hki, if_neg (by omega)]
      · obtain rfl : i = la.length := by omega
        have hco : co ms = Ps.C c * co la := Ps.ext fun k => by
          rw [hmc k, Ps.C_mul]
          by_cases hk : k < la.length
          · rw [if_pos hk, El.mul_comm]
          · rw [if_neg hk, co_dg la k (by omega), El.mul_zero]
        have hback : co la = Ps.C la[j] * co ms := Ps.ext fun k => by
          rw [hco, Ps.C_mul, Ps.C_mul, ← El.mul_assoc, hgc, El.one_mul]
        have htop1 : (co ms).c (ms.length - 1) = 1 := by
          rw [hco, Ps.C_mul, hms, hj, Nat.add_sub_cancel, co_get la hjl, El.mul_comm, hgc]
        have htr : tr ms = ms := by
          have : tln ms = ms.length := tln_of (co_dg ms) (Or.inr (by rw [htop1]; exact El.one_ne))
          unfold tr; rw [this, List.take_length]
        have hdm : Dv (co ms) (co la) := ⟨_, Pol.C _, hback⟩
        simp (maxSteps := 1000000) (disch := omega) only [WS, List.getElem_cons_zero, List.getElem_cons_succ, Option.isNone_some, Option.isNone_none, List.getD_cons_zero, List.getD_cons_succ, I.at, atL, atO, atP, evp, evs, retV, ↓reduceIte, Nat.reduceEqDiff, reduceCtorEq, AS, t0, t8, t12, t13, oa.sl.Xlen, hmms]
        exact ⟨B, Or.inl ⟨by omega, by omega, sa, ms, rfl, oa, htr, hdm.trans d1, hdm.trans d2, ⟨Ps.C c * p, Ps.C c * q, (Pol.C c).mul hp, (Pol.C c).mul hq, by rw [hco, hla, Ps.mul_add, Ps.mul_assoc, Ps.mul_assoc]⟩, fun _ => htop1, by omega⟩⟩
  · have hlen := len_tr tb
    have hlna := len_tr ta
    simp (maxSteps := 1000000) (disch := omega) only [WS, List.getElem_cons_zero, List.getElem_cons_succ, Option.isNone_some, Option.isNone_none, List.getD_cons_zero, List.getD_cons_succ, I.at, atL, atO, atP, evp, evs, retV, ↓reduceIte, Nat.reduceEqDiff, reduceCtorEq, AS, t0, t8, t9, ob.sl.Xlen, hmb]
    refine X_call0 ((culletref04_divide_b_spec w4 sa sb la lb oa.sl ob.sl (by omega) (by omega) (by omega)).mono ?_)
    rintro _ w5 ⟨sq, sm, qq, m, rfl, oq, om, tq, tm, hco, hml, hml2, hql, hB⟩
    have hm : co m = co la + co qq * co lb := by rw [hco]; generalize co qq * co lb = A; rw [show A + co m + A = co m + (A + A) by ac_rfl, Ps.add_self, Ps.add_zero]
    have om := om.mono B.size
    have ob := ob.up hB
    have B := B.trans (hB.mono B.size)
    clear hB
    simp (maxSteps := 1000000) (disch := omega) only [WS, List.getElem_cons_zero, List.getElem_cons_succ, Option.isNone_some, Option.isNone_none, List.getD_cons_zero, List.getD_cons_succ, I.at, atL, atO, atP, evp, evs, retV, ↓reduceIte, Nat.reduceEqDiff, reduceCtorEq, AS, t0, t8, t9]
    refine ⟨⟨B, sb, sm, lb, m, rfl, rfl, ob, om, tb, tm, ⟨p', q', hp', hq', hlb⟩, ⟨p + co qq * p', q + co qq * q', hp.add ((Pol.of qq).mul hp'), hq.add ((Pol.of qq).mul hq'), ?_⟩, fun d h3 h4 => ?_, hnb, by omega⟩, ?_⟩
    · rw [hm, hla, hlb, Ps.mul_add, Ps.add_mul, Ps.add_mul, Ps.mul_assoc, Ps.mul_assoc]; ac_rfl
    · exact hdv d (by rw [hco]; exact (h3.mul (Pol.of qq)).add h4) h3
    · obtain ⟨a1, c1, e3, -, -⟩ := om.sl.sh
      obtain ⟨a2, c2, e4, -, -⟩ := ob.sl.sh
      rw [e3, e4, List.length_map, List.length_map]
      show m.length < lb.length
      omega
theorem culletref04_Partial_b_spec (w : World) (s1 s2 : Value) (l1 l2 : List (El 8)) (d : Int) (h1 : Sl w s1 (l1.map em8)) (h2 : Sl w s2 (l2.map em8)) (hb1 : l1.length ≤ 70368744175616) (hb2 : l2.length ≤ 70368744175616) :
    CallV Tryz.prog 53 [.bool false, s1, s2, .int .i64 d] w fun v w' => RowKit.Below w.heap.size w w' ∧
      ((l1.length ≤ 1024 ∧ l2.length ≤ 1024 ∧ 0 ≤ d ∧ ∃ (sm su sv : Value) (m u v' : List (El 8)), v = .tuple #[sm, su, sv, .int .i64 0] ∧ Ow w.heap.size w' sm (m.map em8) ∧ Ow w.heap.size w' su (u.map em8) ∧ Ow w.heap.size w' sv (v'.map em8) ∧ Eu d.toNat (tr l1) (tr l2) [1] [] [] [1] m u v') ∨
       (l1.length ≤ 1024 ∧ l2.length ≤ 1024 ∧ d < 0 ∧ v = .tuple #[.slice none 0 0, .slice none 0 0, .slice none 0 0, .int .i64 7]) ∨
       (¬ (l1.length ≤ 1024 ∧ l2.length ≤ 1024) ∧ v = .tuple #[.slice none 0 0, .slice none 0 0, .slice none 0 0, .int .i64 5])) := by
  refine run_culletref04_Partial (by simp) ?_
  simp only [c_culletref04_Partial, WS, List.getElem_cons_zero, List.getElem_cons_succ, Option.isNone_some, Option.isNone_none, List.getD_cons_zero, List.getD_cons_succ, I.at, atL, atO, atP, evp, evs, retV, ↓reduceIte, Nat.reduceEqDiff, reduceCtorEq]
  have hm1 : (l1.map em8).length = l1.length := List.length_map ..
  have hm2 : (l2.map em8).length = l2.length := List.length_map ..
  by_cases c1 : 1024 < l1.length
  · simp (maxSteps := 1000000) (disch := omega) only [WS, List.getElem_cons_zero, List.getElem_cons_succ, Option.isNone_some, Option.isNone_none, List.getD_cons_zero, List.getD_cons_succ, I.at, atL, atO, atP, evp, evs, retV, ↓reduceIte, Nat.reduceEqDiff, reduceCtorEq, AS, h1.Xlen, hm1]
    exact ⟨RowKit.Below.refl _ _, Or.inr (Or.inr (by omega))⟩
  by_cases c2 : 1024 < l2.length
  · simp (maxSteps := 1000000) (disch := omega) only [WS, List.getElem_cons_zero, List.getElem_cons_succ, Option.isNone_some, Option.isNone_none, List.getD_cons_zero, List.getD_cons_succ, I.at, atL, atO, atP, evp, evs, retV, ↓reduceIte, Nat.reduceEqDiff, reduceCtorEq, AS, h1.Xlen, h2.Xlen, hm1, hm2]
    exact ⟨RowKit.Below.refl _ _, Or.inr (Or.inr (by omega))⟩
  by_cases hd0 : d < 0
  · simp (maxSteps := 1000000) (disch := omega) only [WS, List.getElem_cons_zero, List.getElem_cons_succ, Option.isNone_some, Option.isNone_none, List.getD_cons_zero, List.getD_cons_succ, I.at, atL, atO, atP, evp, evs, retV, ↓reduceIte, Nat.reduceEqDiff, reduceCtorEq, AS, h1.Xlen, h2.Xlen, hm1, hm2]
    exact ⟨RowKit.Below.refl _ _, Or.inr (Or.inl ⟨by omega, by omega, hd0⟩)⟩
  obtain ⟨D, rfl⟩ : ∃ D : Nat, d = (D : Int) := ⟨d.toNat, by omega⟩
  rw [Int.toNat_natCast]
  simp (maxSteps := 1000000) (disch := omega) only [WS, List.getElem_cons_zero, List.getElem_cons_succ, Option.isNone_some, Option.isNone_none, List.getD_cons_zero, List.getD_cons_succ, I.at, atL, atO, atP, evp, evs, retV, ↓reduceIte, Nat.reduceEqDiff, reduceCtorEq, AS, h1.Xlen, h2.Xlen, hm1, hm2]
  refine X_call0 ((culletref04_Trim_spec w s1 (l1.map em8) h1 (by omega)).mono ?_)
  rintro sa w1 ⟨oa, hB⟩
  have B := hB
  have h2 := h2.up hB
  clear hB
  simp (maxSteps := 1000000) (disch := omega) only [WS, List.getElem_cons_zero, List.getElem_cons_succ, Option.isNone_some, Option.isNone_none, List.getD_cons_zero, List.getD_cons_succ, I.at, atL, atO, atP, evp, evs, retV, ↓reduceIte, Nat.reduceEqDiff, reduceCtorEq, AS]
  refine X_call0 ((culletref04_Trim_spec w1 s2 (l2.map em8) h2 (by omega)).mono ?_)
  rintro sb w2 ⟨ob, hB⟩
  have ob := ob.mono B.size
  have oa := oa.up hB
  have B := B.trans (hB.mono B.size)
  clear hB
  rw [tr_em8] at oa ob
  have q1 := tln_le l1
  have q2 := tln_le l2
  simp (maxSteps := 1000000) (disch := omega) only [WS, List.getElem_cons_zero, List.getElem_cons_succ, Option.isNone_some, Option.isNone_none, List.getD_cons_zero, List.getD_cons_succ, I.at, atL, atO, atP, evp, evs, retV, ↓reduceIte, Nat.reduceEqDiff, reduceCtorEq, AS]
  refine X_bsl (zs := [(em8 (1 : El 8))]) (by rfl) (by rfl) fun su w3 ou hB => ?_
  have ou := ou.mono B.size
  have oa := oa.up hB
  have ob := ob.up hB
  have B := B.trans (hB.mono B.size)
  clear hB
  simp (maxSteps := 1000000) (disch := omega) only [WS, List.getElem_cons_zero, List.getElem_cons_succ, Option.isNone_some, Option.isNone_none, List.getD_cons_zero, List.getD_cons_succ, I.at, atL, atO, atP, evp, evs, retV, ↓reduceIte, Nat.reduceEqDiff, reduceCtorEq, AS]
  refine X_bsl (zs := [(em8 (1 : El 8))]) (by rfl) (by rfl) fun st w4 ot hB => ?_
  have ot := ot.mono B.size
  have oa := oa.up hB
  have ob := ob.up hB
  have ou := ou.up hB
  have B := B.trans (hB.mono B.size)
  clear hB
  have n1 := tr_len l1
  have n2 := tr_len l2
  simp (maxSteps := 1000000) (disch := omega) only [WS, List.getElem_cons_zero, List.getElem_cons_succ, Option.isNone_some, Option.isNone_none, List.getD_cons_zero, List.getD_cons_succ, I.at, atL, atO, atP, evp, evs, retV, ↓reduceIte, Nat.reduceEqDiff, reduceCtorEq, AS]
  refine loop_of (fun t w' => t 0 = .bool false ∧ t 3 = .int .i64 (D : Int) ∧ RowKit.Below w.heap.size w w' ∧ ∃ (sa sb su sv ss st : Value) (la lb lu lv ls lt : List (El 8)), t 12 = sa ∧ t 13 = sb ∧ t 14 = su ∧ t 16 = sv ∧ t 17 = ss ∧ t 15 = st ∧
        Ow w.heap.size w' sa (la.map em8) ∧ Ow w.heap.size w' sb (lb.map em8) ∧ Ow w.heap.size w' su (lu.map em8) ∧ Ow w.heap.size w' sv (lv.map em8) ∧ Ow w.heap.size w' ss (ls.map em8) ∧ Ow w.heap.size w' st (lt.map em8) ∧ tr la = la ∧ tr lb = lb ∧ tr lu = lu ∧ tr lv = lv ∧ tr ls = ls ∧ tr lt = lt ∧ la.length ≤ 1024 ∧ lb.length ≤ 1024 ∧
        lu.length + 1025 * lb.length ≤ 1101024 ∧ ls.length + 1025 * lb.length ≤ 1100000 ∧ lv.length + 1025 * lb.length ≤ 1101024 ∧ lt.length + 1025 * lb.length ≤ 1100000 ∧
        ∀ x y z, Eu D la lb lu lv ls lt x y z → Eu D (tr l1) (tr l2) [1] [] [] [1] x y z)
      (fun t w' => match t 13 with | .slice _ n _ => n | _ => 0) ⟨by simp only [WS, List.getElem_cons_zero, List.getElem_cons_succ, Option.isNone_some, Option.isNone_none, List.getD_cons_zero, List.getD_cons_succ, I.at, atL, atO, atP, evp, evs, retV, ↓reduceIte, Nat.reduceEqDiff, reduceCtorEq], by simp only [WS, List.getElem_cons_zero, List.getElem_cons_succ, Option.isNone_some, Option.isNone_none, List.getD_cons_zero, List.getD_cons_succ, I.at, atL, atO, atP, evp, evs, retV, ↓reduceIte, Nat.reduceEqDiff, reduceCtorEq], B, sa, sb, su, _, _, st, tr l1, tr l2, [1], [], [], [1], by simp only [WS, List.getElem_cons_zero, List.getElem_cons_succ, Option.isNone_some, Option.isNone_none, List.getD_cons_zero, List.getD_cons_succ, I.at, atL, atO, atP, evp, evs, retV, ↓reduceIte, Nat.reduceEqDiff, reduceCtorEq], by simp only [WS, List.getElem_cons_zero, List.getElem_cons_succ, Option.isNone_some, Option.isNone_none, List.getD_cons_zero, List.getD_cons_succ, I.at, atL, atO, atP, evp, evs, retV, ↓reduceIte, Nat.reduceEqDiff, reduceCtorEq], by simp only [WS, List.getElem_cons_zero, List.getElem_cons_succ, Option.isNone_some, Option.isNone_none, List.getD_cons_zero, List.getD_cons_succ, I.at, atL, atO, atP, evp, evs, retV, ↓reduceIte, Nat.reduceEqDiff, reduceCtorEq], by simp only [WS, List.getElem_cons_zero, List.getElem_cons_succ, Option.isNone_some, Option.isNone_none, List.getD_cons_zero, List.getD_cons_succ, I.at, atL, atO, atP, evp, evs, retV, ↓reduceIte, Nat.reduceEqDiff, reduceCtorEq], by simp only [WS, List.getElem_cons_zero, List.getElem_cons_succ, Option.isNone_some, Option.isNone_none, List.getD_cons_zero, List.getD_cons_succ, I.at, atL, atO, atP, evp, evs, retV, ↓reduceIte, Nat.reduceEqDiff, reduceCtorEq], by simp only [WS, List.getElem_cons_zero, List.getElem_cons_succ, Option.isNone_some, Option.isNone_none, List.getD_cons_zero, List.getD_cons_succ, I.at, atL, atO, atP, evp, evs, retV, ↓reduceIte, Nat.reduceEqDiff, reduceCtorEq], oa, ob, ou, Ow.nil _ _, Ow.nil _ _, ot, tr_tr l1, tr_tr l2, tr_one, tr_nil, tr_nil, tr_one,
        by omega, by omega, by simp; omega, by simp; omega, by simp; omega, by simp; omega, fun x y z h => h⟩ ?_
  clear oa ob ou ot B
  rintro t w6 ⟨t0, t3, B6, sa, sb, su, sv, ss, st, la, lb, lu, lv, ls, lt, t12, t13, t14, t16, t17, t15, oa, ob, ou, ov, os, ot, ta, tb, tu, tv, ts, tt, na, nb, nu, ns, nv, nt, hE⟩
  have hlna := len_tr ta
  have hma : (la.map em8).length = la.length := List.length_map ..
  have hmb : (lb.map em8).length = lb.length := List.length_map ..
  have hmu : (lu.map em8).length = lu.length := List.length_map ..
  have hmv : (lv.map em8).length = lv.length := List.length_map ..
  simp (maxSteps := 1000000) (disch := omega) only [WS, List.getElem_cons_zero, List.getElem_cons_succ, Option.isNone_some, Option.isNone_none, List.getD_cons_zero, List.getD_cons_succ, I.at, atL, atO, atP, evp, evs, retV, ↓reduceIte, Nat.reduceEqDiff, reduceCtorEq, AS, t0, t3, t12, t13, t14, t15, t16, t17]
  refine X_call0 ((culletref04_Degree_spec w6 sa (la.map em8) oa.sl (by omega)).mono ?_)
  rintro _ w6 ⟨rfl, rfl⟩
  rw [tln_em8x, ← hlna]
  by_cases hda : D < la.length
  · have hge : ((D : Int) ≤ (la.length : Int) - 1) := by omega
    by_cases hz : lb.length = 0
    · obtain rfl : lb = [] := List.eq_nil_of_length_eq_zero hz
      simp (maxSteps := 1000000) only [WS, List.getElem_cons_zero, List.getElem_cons_succ, Option.isNone_some, Option.isNone_none, List.getD_cons_zero, List.getD_cons_succ, I.at, atL, atO, atP, evp, evs, retV, ↓reduceIte, Nat.reduceEqDiff, reduceCtorEq, t0, t3, t12, t13, t14, t15, t16, t17, decide_eq_true hge, ob.sl.Xlen, hmb, hz, show decide (((0 : Nat) : Int) = 0) = true from rfl]
      exact ⟨B6, Or.inl ⟨by omega, by omega, by omega, sb, ss, st, [], ls, lt, rfl, ob, os, ot, hE _ _ _ (Eu.zero hda)⟩⟩
    · have hlen := len_tr tb
      have hnz : ¬ ((lb.length : Int) = 0) := by omega
      simp (maxSteps := 1000000) only [WS, List.getElem_cons_zero, List.getElem_cons_succ, Option.isNone_some, Option.isNone_none, List.getD_cons_zero, List.getD_cons_succ, I.at, atL, atO, atP, evp, evs, retV, ↓reduceIte, Nat.reduceEqDiff, reduceCtorEq, t0, t3, t12, t13, t14, t15, t16, t17, decide_eq_true hge, ob.sl.Xlen, hmb, decide_eq_false hnz]
      refine X_call0 ((culletref04_divide_b_spec w6 sa sb la lb oa.sl ob.sl (by omega) (by omega) (by omega)).mono ?_)
      rintro _ w7 ⟨sq, sm, qq, m, rfl, oq, om, tq, tm, hco, hml, -, hql, hB⟩
      have oq := oq.mono B6.size
      have om := om.mono B6.size
      have ob := ob.up hB
      have ou := ou.up hB
      have ov := ov.up hB
      have os := os.up hB
      have ot := ot.up hB
      have B6 := B6.trans (hB.mono B6.size)
      clear hB
      simp (maxSteps := 1000000) (disch := omega) only [WS, List.getElem_cons_zero, List.getElem_cons_succ, Option.isNone_some, Option.isNone_none, List.getD_cons_zero, List.getD_cons_succ, I.at, atL, atO, atP, evp, evs, retV, ↓reduceIte, Nat.reduceEqDiff, reduceCtorEq, AS, t0, t3, t12, t13, t14, t15, t16, t17]
      refine X_call0 ((culletref04_product_b_spec w7 sq ss qq ls oq.sl os.sl (by omega) (by omega)).mono ?_)
      rintro sp w8 ⟨lp, op, tp, cp, np, hB⟩
      have op := op.mono B6.size
      have ob := ob.up hB
      have ou := ou.up hB
      have ov := ov.up hB
      have os := os.up hB
      have ot := ot.up hB
      have oq := oq.up hB
      have om := om.up hB
      have B6 := B6.trans (hB.mono B6.size)
      clear hB
      have hmp : (lp.map em8).length = lp.length := List.length_map ..
      simp (maxSteps := 1000000) (disch := omega) only [WS, List.getElem_cons_zero, List.getElem_cons_succ, Option.isNone_some, Option.isNone_none, List.getD_cons_zero, List.getD_cons_succ, I.at, atL, atO, atP, evp, evs, retV, ↓reduceIte, Nat.reduceEqDiff, reduceCtorEq, AS, t0, t3, t12, t13, t14, t15, t16, t17]
      refine X_call0 ((culletref04_Addx_b_spec w8 su sp lu lp ou.sl op.sl (by omega) (by omega)).mono ?_)
      rintro su' w9 ⟨lu', ou', tu', cu', nu', hB⟩
      have ou' := ou'.mono B6.size
      have ob := ob.up hB
      have ov := ov.up hB
      have os := os.up hB
      have ot := ot.up hB
      have oq := oq.up hB
      have om := om.up hB
      have B6 := B6.trans (hB.mono B6.size)
      clear hB
      simp (maxSteps := 1000000) (disch := omega) only [WS, List.getElem_cons_zero, List.getElem_cons_succ, Option.isNone_some, Option.isNone_none, List.getD_cons_zero, List.getD_cons_succ, I.at, atL, atO, atP, evp, evs, retV, ↓reduceIte, Nat.reduceEqDiff, reduceCtorEq, AS, t0, t3, t12, t13, t14, t15, t16, t17]
      refine X_call0 ((culletref04_product_b_spec w9 sq st qq lt oq.sl ot.sl (by omega) (by omega)).mono ?_)
      rintro sp2 w10 ⟨lp2, op2, tp2, cp2, np2, hB⟩
      have op2 := op2.mono B6.size
      have ob := ob.up hB
      have ov := ov.up hB
      have os := os.up hB
      have ot := ot.up hB
      have om := om.up hB
      have ou' := ou'.up hB
      have B6 := B6.trans (hB.mono B6.size)
      clear hB
      simp (maxSteps := 1000000) (disch := omega) only [WS, List.getElem_cons_zero, List.getElem_cons_succ, Option.isNone_some, Option.isNone_none, List.getD_cons_zero, List.getD_cons_succ, I.at, atL, atO, atP, evp, evs, retV, ↓reduceIte, Nat.reduceEqDiff, reduceCtorEq, AS, t0, t3, t12, t13, t14, t15, t16, t17]
      refine X_call0 ((culletref04_Addx_b_spec w10 sv sp2 lv lp2 ov.sl op2.sl (by omega) (by omega)).mono ?_)
      rintro sv' w11 ⟨lv', ov', tv', cv', nv', hB⟩
      have ov' := ov'.mono B6.size
      have ob := ob.up hB
      have os := os.up hB
      have ot := ot.up hB
      have om := om.up hB
      have ou' := ou'.up hB
      have B6 := B6.trans (hB.mono B6.size)
      clear hB
      simp (maxSteps := 1000000) (disch := omega) only [WS, List.getElem_cons_zero, List.getElem_cons_succ, Option.isNone_some, Option.isNone_none, List.getD_cons_zero, List.getD_cons_succ, I.at, atL, atO, atP, evp, evs, retV, ↓reduceIte, Nat.reduceEqDiff, reduceCtorEq, AS, t0, t3, t12, t13, t14, t15, t16, t17]
      refine ⟨⟨B6, sb, sm, ss, st, su', sv', lb, m, ls, lt, lu', lv', rfl, rfl, rfl, rfl, rfl, rfl, ob, om, os, ot, ou', ov', tb, tm, ts, tt, tu', tv', nb, by omega, by omega, by omega, by omega, by omega, fun x y z h => hE _ _ _ ?_⟩, ?_⟩
      · exact Eu.step hda (by rintro rfl; simp at hz) tq tm hco (by omega) tu' (by rw [cu', cp]) tv' (by rw [cv', cp2]) h
      · obtain ⟨a1, c1, e3, -, -⟩ := om.sl.sh
        obtain ⟨a2, c2, e4, -, -⟩ := ob.sl.sh
        rw [e3, e4, List.length_map, List.length_map]
        show m.length < lb.length
        omega
  · have hge : ¬ ((D : Int) ≤ (la.length : Int) - 1) := by omega
    simp (maxSteps := 1000000) only [WS, List.getElem_cons_zero, List.getElem_cons_succ, Option.isNone_some, Option.isNone_none, List.getD_cons_zero, List.getD_cons_succ, I.at, atL, atO, atP, evp, evs, retV, ↓reduceIte, Nat.reduceEqDiff, reduceCtorEq, t0, t3, t12, t13, t14, t15, t16, t17, decide_eq_false hge]
    exact ⟨B6, Or.inl ⟨by omega, by omega, by omega, sa, su, sv, la, lu, lv, rfl, oa, ou, ov, hE _ _ _ (Eu.stop (by omega))⟩⟩
end Go.Proofs.YtcdagkcchfibjaaGreat.Fw
