import Derived.Test.YtcdagkcchfibjaaProg
import Derived.Test.YtcdagkcchfibjaaFwTM
import Derived.Test.YtcdagkcchfibjaaSPMdM
set_option linter.all false
set_option linter.unusedVariables false
set_option linter.unusedSimpArgs false
set_option maxRecDepth 100000
set_option maxHeartbeats 1000000
namespace Go.Proofs.Ytcdagkcchfibjaa.Fw
open Go Go.Fw Go.Proofs
attribute [local irreducible] stepI
def c_culletlaw04_keeps16 : C := .seq (.ops [⟨0, (some 2), none, .box 33 (.t 0), []⟩, ⟨1, (some 4), none, .mov (.c (.bool false)), []⟩]) (.seq (.ops [⟨0, (some 21), none, .call (.c (.func (.func 36) #[] #[])) [], []⟩, ⟨1, (some 5), none, .mov (.t 21), []⟩]) (.seq (.ops [⟨0, (some 23), none, .fad 2 (.t 2), []⟩, ⟨1, (some 24), none, .ld (.t 23), []⟩, ⟨2, (some 25), none, .call (.c (.func (.func 63) #[] #[])) [.t 24], []⟩, ⟨3, (some 22), none, .mov (.t 25), []⟩, ⟨4, (some 26), none, .ext (.t 22) 0, []⟩, ⟨5, (some 27), none, .ext (.t 22) 1, []⟩, ⟨6, (some 6), none, .mov (.t 26), []⟩, ⟨7, (some 7), none, .mov (.t 27), []⟩]) (.seq (.ops [⟨0, (some 29), none, .fad 3 (.t 2), []⟩, ⟨1, (some 30), none, .ld (.t 29), []⟩, ⟨2, (some 31), none, .call (.c (.func (.func 63) #[] #[])) [.t 30], []⟩, ⟨3, (some 28), none, .mov (.t 31), []⟩, ⟨4, (some 32), none, .ext (.t 28) 0, []⟩, ⟨5, (some 33), none, .ext (.t 28) 1, []⟩, ⟨6, (some 8), none, .mov (.t 32), []⟩, ⟨7, (some 9), none, .mov (.t 33), []⟩]) (.seq (.ops [⟨0, (some 34), none, .mov (.t 6), []⟩, ⟨1, (some 35), none, .mov (.t 8), []⟩, ⟨2, (some 36), none, .bsl 27 2 [.slice none 0 0] [(0, (1, .t 34)), (1, (1, .t 35))], []⟩, ⟨3, (some 37), none, .call (.c (.func (.func 64) #[] #[])) [.t 36], []⟩, ⟨4, (some 10), none, .mov (.t 37), []⟩]) (.seq (.ops [⟨0, (some 38), none, .mov (.t 5), []⟩, ⟨1, (some 39), none, .mov (.t 1), []⟩, ⟨2, (some 40), none, .mov (.t 7), []⟩, ⟨3, (some 41), none, .mov (.t 9), []⟩, ⟨4, (some 42), none, .fad 5 (.t 2), []⟩, ⟨5, (some 43), none, .ld (.t 42), []⟩, ⟨6, (some 44), none, .call (.c (.func (.func 69) #[] #[])) [.t 38, .t 39, .t 40, .t 41, .t 43], []⟩, ⟨7, (some 11), none, .mov (.t 44), []⟩]) (.seq (.ops [⟨0, (some 45), none, .mov (.t 11), []⟩, ⟨1, (some 46), none, .call (.c (.func (.func 64) #[] #[])) [.t 45], []⟩, ⟨2, (some 12), none, .mov (.t 46), []⟩]) (.seq (.ops [⟨0, (some 47), none, .mov (.t 5), []⟩, ⟨1, (some 48), none, .mov (.t 1), []⟩, ⟨2, (some 49), none, .mov (.t 7), []⟩, ⟨3, (some 50), none, .mov (.t 9), []⟩, ⟨4, (some 51), none, .fad 5 (.t 2), []⟩, ⟨5, (some 52), none, .ld (.t 51), []⟩, ⟨6, (some 53), none, .call (.c (.func (.func 69) #[] #[])) [.t 47, .t 48, .t 49, .t 50, .t 52], []⟩, ⟨7, (some 13), none, .mov (.t 53), []⟩]) (.seq (.seq (.ops [⟨0, (some 54), none, .mov (.t 13), []⟩, ⟨1, (some 55), none, .mov (.t 12), []⟩, ⟨2, (some 56), none, .call (.c (.func (.func 65) #[] #[])) [.t 54, .t 55], []⟩, ⟨3, (some 57), none, .un .not (.t 56), []⟩, ⟨4, (some 58), none, .mov (.t 57), []⟩, ⟨5, (some 59), (some (58, false)), .mov (.t 6), []⟩, ⟨6, (some 60), (some (58, false)), .mov (.t 8), []⟩, ⟨7, (some 61), (some (58, false)), .bsl 27 2 [.slice none 0 0] [(0, (1, .t 59)), (1, (1, .t 60))], []⟩, ⟨8, (some 62), (some (58, false)), .mov (.t 10), []⟩, ⟨9, (some 63), (some (58, false)), .call (.c (.func (.func 65) #[] #[])) [.t 61, .t 62], []⟩, ⟨10, (some 64), (some (58, false)), .un .not (.t 63), []⟩, ⟨11, (some 65), none, .pick (.t 58) (.c (.bool true)) (.t 64), []⟩]) (.ite (.t 65) (.seq (.ops [⟨0, (some 4), none, .mov (.c (.bool false)), []⟩]) .ret) .skip)) (.seq (.seq (.ops [⟨0, (some 14), none, .mov (.c (.int .i64 0)), []⟩]) (.block 0 (.loop (.seq (.seq (.ops [⟨0, (some 66), none, .mov (.t 14), []⟩, ⟨1, (some 67), none, .mov (.t 7), []⟩, ⟨2, (some 68), none, .len (.t 67), []⟩, ⟨3, (some 69), none, .bin .lss (.t 66) (.t 68), []⟩]) (.ite (.t 69) .skip (.exit 0))) (.seq (.block 1 (.ops [⟨0, (some 72), none, .mov (.t 7), []⟩, ⟨1, (some 73), none, .mov (.t 14), []⟩, ⟨2, (some 74), none, .mov (.t 7), []⟩, ⟨3, (some 75), none, .mov (.t 14), []⟩, ⟨4, (some 76), none, .ixs 1 (.t 74) (.t 75), []⟩, ⟨5, (some 77), none, .ld (.t 76), []⟩, ⟨6, (some 78), none, .bin .mul (.t 77) (.c (.int .u16 3)), []⟩, ⟨7, (some 79), none, .bin .add (.t 78) (.c (.int .u16 1)), []⟩, ⟨8, (some 80), none, .ixs 1 (.t 72) (.t 73), []⟩, ⟨9, none, none, .st (.t 80) (.t 79), []⟩])) (.ops [⟨0, (some 70), none, .mov (.t 14), []⟩, ⟨1, (some 71), none, .bin .add (.t 70) (.c (.int .i64 1)), []⟩, ⟨2, (some 14), none, .mov (.t 71), []⟩])))))) (.seq (.seq (.ops [⟨0, (some 15), none, .mov (.c (.int .i64 0)), []⟩]) (.block 2 (.loop (.seq (.seq (.ops [⟨0, (some 81), none, .mov (.t 15), []⟩, ⟨1, (some 82), none, .mov (.t 9), []⟩, ⟨2, (some 83), none, .len (.t 82), []⟩, ⟨3, (some 84), none, .bin .lss (.t 81) (.t 83), []⟩]) (.ite (.t 84) .skip (.exit 2))) (.seq (.block 3 (.ops [⟨0, (some 87), none, .mov (.t 9), []⟩, ⟨1, (some 88), none, .mov (.t 15), []⟩, ⟨2, (some 89), none, .mov (.t 9), []⟩, ⟨3, (some 90), none, .mov (.t 15), []⟩, ⟨4, (some 91), none, .ixs 1 (.t 89) (.t 90), []⟩, ⟨5, (some 92), none, .ld (.t 91), []⟩, ⟨6, (some 93), none, .bin .mul (.t 92) (.c (.int .u16 3)), []⟩, ⟨7, (some 94), none, .bin .add (.t 93) (.c (.int .u16 1)), []⟩, ⟨8, (some 95), none, .ixs 1 (.t 87) (.t 88), []⟩, ⟨9, none, none, .st (.t 95) (.t 94), []⟩])) (.ops [⟨0, (some 85), none, .mov (.t 15), []⟩, ⟨1, (some 86), none, .bin .add (.t 85) (.c (.int .i64 1)), []⟩, ⟨2, (some 15), none, .mov (.t 86), []⟩])))))) (.seq (.ops [⟨0, (some 96), none, .mov (.t 6), []⟩, ⟨1, (some 97), none, .mov (.t 8), []⟩, ⟨2, (some 98), none, .bsl 27 2 [.slice none 0 0] [(0, (1, .t 96)), (1, (1, .t 97))], []⟩, ⟨3, (some 99), none, .call (.c (.func (.func 64) #[] #[])) [.t 98], []⟩, ⟨4, (some 16), none, .mov (.t 99), []⟩]) (.seq (.seq (.ops [⟨0, (some 100), none, .mov (.t 11), []⟩, ⟨1, (some 101), none, .mov (.t 12), []⟩, ⟨2, (some 102), none, .call (.c (.func (.func 65) #[] #[])) [.t 100, .t 101], []⟩, ⟨3, (some 103), none, .un .not (.t 102), []⟩, ⟨4, (some 104), none, .mov (.t 103), []⟩, ⟨5, (some 105), (some (104, false)), .mov (.t 13), []⟩, ⟨6, (some 106), (some (104, false)), .mov (.t 12), []⟩, ⟨7, (some 107), (some (104, false)), .call (.c (.func (.func 65) #[] #[])) [.t 105, .t 106], []⟩, ⟨8, (some 108), (some (104, false)), .un .not (.t 107), []⟩, ⟨9, (some 109), none, .pick (.t 104) (.c (.bool true)) (.t 108), []⟩]) (.ite (.t 109) (.seq (.ops [⟨0, (some 4), none, .mov (.c (.bool false)), []⟩]) .ret) .skip)) (.seq (.ops [⟨0, (some 110), none, .mov (.t 5), []⟩, ⟨1, (some 111), none, .mov (.t 1), []⟩, ⟨2, (some 112), none, .mov (.t 7), []⟩, ⟨3, (some 113), none, .mov (.t 9), []⟩, ⟨4, (some 114), none, .fad 5 (.t 2), []⟩, ⟨5, (some 115), none, .ld (.t 114), []⟩, ⟨6, (some 116), none, .call (.c (.func (.func 69) #[] #[])) [.t 110, .t 111, .t 112, .t 113, .t 115], []⟩, ⟨7, (some 17), none, .mov (.t 116), []⟩]) (.seq (.ops [⟨0, (some 117), none, .mov (.t 7), []⟩, ⟨1, (some 118), none, .mov (.t 9), []⟩, ⟨2, (some 119), none, .bsl 27 2 [.slice none 0 0] [(0, (1, .t 117)), (1, (1, .t 118))], []⟩, ⟨3, (some 120), none, .call (.c (.func (.func 64) #[] #[])) [.t 119], []⟩, ⟨4, (some 18), none, .mov (.t 120), []⟩]) (.seq (.dops [⟨0, (some 121), none, .call (.c (.func (.func 36) #[] #[])) [], []⟩, ⟨1, (some 122), none, .mov (.t 1), []⟩, ⟨2, (some 123), none, .mov (.t 18), []⟩, ⟨3, (some 124), none, .ixs 1 (.t 123) (.c (.int .i64 0)), []⟩, ⟨4, (some 125), none, .ld (.t 124), [0]⟩, ⟨5, (some 126), none, .mov (.t 18), []⟩, ⟨6, (some 127), none, .ixs 1 (.t 126) (.c (.int .i64 1)), []⟩, ⟨7, (some 128), none, .ld (.t 127), [0]⟩, ⟨8, (some 129), none, .fad 5 (.t 2), []⟩, ⟨9, (some 130), none, .ld (.t 129), [0]⟩, ⟨10, (some 131), none, .call (.c (.func (.func 69) #[] #[])) [.t 121, .t 122, .t 125, .t 128, .t 130], []⟩, ⟨11, (some 19), none, .mov (.t 131), []⟩]) (.seq (.seq (.ops [⟨0, (some 132), none, .mov (.t 17), []⟩, ⟨1, (some 133), none, .mov (.t 19), []⟩, ⟨2, (some 134), none, .call (.c (.func (.func 65) #[] #[])) [.t 132, .t 133], []⟩, ⟨3, (some 135), none, .un .not (.t 134), []⟩, ⟨4, (some 136), none, .mov (.t 135), []⟩, ⟨5, (some 137), (some (136, false)), .mov (.t 11), []⟩, ⟨6, (some 138), (some (136, false)), .mov (.t 12), []⟩, ⟨7, (some 139), (some (136, false)), .call (.c (.func (.func 65) #[] #[])) [.t 137, .t 138], []⟩, ⟨8, (some 140), (some (136, false)), .un .not (.t 139), []⟩, ⟨9, (some 141), none, .pick (.t 136) (.c (.bool true)) (.t 140), []⟩, ⟨10, (some 142), none, .mov (.t 141), []⟩, ⟨11, (some 143), (some (142, false)), .mov (.t 13), []⟩, ⟨12, (some 144), (some (142, false)), .mov (.t 12), []⟩, ⟨13, (some 145), (some (142, false)), .call (.c (.func (.func 65) #[] #[])) [.t 143, .t 144], []⟩, ⟨14, (some 146), (some (142, false)), .un .not (.t 145), []⟩, ⟨15, (some 147), none, .pick (.t 142) (.c (.bool true)) (.t 146), []⟩]) (.ite (.t 147) (.seq (.ops [⟨0, (some 4), none, .mov (.c (.bool false)), []⟩]) .ret) .skip)) (.seq (.ops [⟨0, (some 148), none, .bsl 27 0 [.slice none 0 0] [], []⟩, ⟨1, (some 149), none, .mov (.t 11), []⟩, ⟨2, (some 150), none, .app 27 24 [.slice none 0 0] (.t 148) (.t 149), []⟩, ⟨3, (some 151), none, .mov (.t 13), []⟩, ⟨4, (some 152), none, .app 27 24 [.slice none 0 0] (.t 150) (.t 151), []⟩, ⟨5, (some 153), none, .mov (.t 17), []⟩, ⟨6, (some 154), none, .app 27 24 [.slice none 0 0] (.t 152) (.t 153), []⟩, ⟨7, (some 155), none, .mov (.t 19), []⟩, ⟨8, (some 156), none, .app 27 24 [.slice none 0 0] (.t 154) (.t 155), []⟩, ⟨9, (some 20), none, .mov (.t 156), []⟩]) (.seq (.ops [⟨0, (some 157), none, .mov (.t 20), []⟩, ⟨1, (some 158), none, .call (.c (.func (.func 70) #[] #[])) [.t 157], []⟩, ⟨2, (some 159), none, .mov (.t 158), []⟩, ⟨3, (some 160), (some (159, true)), .mov (.t 6), []⟩, ⟨4, (some 161), (some (159, true)), .mov (.t 8), []⟩, ⟨5, (some 162), (some (159, true)), .bsl 27 2 [.slice none 0 0] [(0, (1, .t 160)), (1, (1, .t 161))], []⟩, ⟨6, (some 163), (some (159, true)), .mov (.t 16), []⟩, ⟨7, (some 164), (some (159, true)), .call (.c (.func (.func 65) #[] #[])) [.t 162, .t 163], []⟩, ⟨8, (some 165), none, .pick (.t 159) (.t 164) (.c (.bool false)), []⟩, ⟨9, (some 4), none, .mov (.t 165), []⟩]) .ret))))))))))))))))))
attribute [irreducible] c_culletlaw04_keeps16
theorem run_culletlaw04_keeps16 {args : List Value} {w : World} {K : Value → World → Prop} (hn : args.length ≤ 166) (h : WP Try.prog c_culletlaw04_keeps16 (endQ [.t 4] K) (initT args) w) : CallV Try.prog 33 args w K :=
  call_of follows Try.func33 (by kernel_rfl) (by kernel_rfl) hn h
end Go.Proofs.Ytcdagkcchfibjaa.Fw
namespace Go.Proofs.Ytcdagkcchfibjaa.Fw
open Go Go.Fw
theorem u8_elm (n : Int) : ∃ y : El 8, IntKind.u8.wrap n = (y.v.toNat : Int) := by
  have h1 : 0 ≤ n % 256 := Int.emod_nonneg _ (by decide)
  have h2 : n % 256 < 256 := Int.emod_lt_of_pos _ (by decide)
  refine ⟨mb (n % 256).toNat, ?_⟩
  rw [mb_v _ (by omega)]
  have e : IntKind.u8.wrap n = n % 256 := by
    show (if (false && decide (n % 256 ≥ 128)) = true then n % 256 - 256 else n % 256) = _
    rfl
  rw [e]; omega
theorem u16_elm (n : Int) : ∃ y : El 16, IntKind.u16.wrap n = (y.v.toNat : Int) := by
  have h1 : 0 ≤ n % 65536 := Int.emod_nonneg _ (by decide)
  have h2 : n % 65536 < 65536 := Int.emod_lt_of_pos _ (by decide)
  refine ⟨⟨BitVec.ofNat 16 (n % 65536).toNat⟩, ?_⟩
  have e2 : (BitVec.ofNat 16 (n % 65536).toNat).toNat = (n % 65536).toNat := by simp; omega
  show IntKind.u16.wrap n = ((BitVec.ofNat 16 (n % 65536).toNat).toNat : Int)
  rw [e2]
  have e : IntKind.u16.wrap n = n % 65536 := by
    show (if (false && decide (n % 65536 ≥ 32768)) = true then n % 65536 - 65536 else n % 65536) = _
    rfl
  rw [e]; omega
end Go.Proofs.Ytcdagkcchfibjaa.Fw
namespace Go.Proofs.Ytcdagkcchfibjaa.Fw
open Go Go.Fw
theorem fill2hw (h0 h1 : Hd) : fillL (repL [.slice none 0 0] 2) [(0, 1, Cell.v h0), (1, 1, Cell.v h1)] = some ([h0, h1].map Cell.v) := by kernel_rfl
def p2w (a b : List (El 16)) : Nat → List (El 16) := fun j => if j = 0 then a else b
theorem rl2w {w : World} {s : Value} {x y : Hd} {a b : List (El 16)} (hs : Sl w s [x, y]) (h1 : Sl w (Cell.v x) a) (h2 : Sl w (Cell.v y) b) (l1 : a.length ≤ 70368744175640) (l2 : b.length ≤ 70368744175640) : Rlw w s [x, y] (p2w a b) := by
  refine ⟨hs, fun j hj => ?_, fun j hj => ?_, by simp⟩
  · obtain rfl | rfl : j = 0 ∨ j = 1 := by simp at hj; omega
    · exact h1
    · exact h2
  · obtain rfl | rfl : j = 0 ∨ j = 1 := by simp at hj; omega
    · exact l1
    · exact l2
theorem rglw {lo hi : Nat} {w : World} {v : Value} {hs : List Hd} {R : Nat → List (El 16)} (h : Rg lo hi w v hs R) (hl : ∀ j, j < hs.length → (R j).length ≤ 70368744175640) (hn : hs.length ≤ 30) : Rlw w v hs R := ⟨h.top.sl, fun j hj => (h.row j hj).sl, hl, hn⟩
set_option maxHeartbeats 40000000 in
theorem culletlaw04_keeps16_spec (w : World) (k k' n : Int) (fl : Bool) (F G : Value) (LF LG : List (El 16)) (x : El 16) (hF : Sl w F LF) (hG : Sl w G LG) (lF : LF.length ≤ 70368744175616) (lG : LG.length ≤ 70368744175616) (hk : k = 1 ∨ k = 2 ∨ k = 4 ∨ k = 5 ∨ k = 6 ∨ k = 7 ∨ k = 8 ∨ k = 9 ∨ k = 10) :
    CallV Try.prog 33 [.agg #[.int .i64 k', .bool fl, F, G, .int .u16 (x.v.toNat : Int), .int .i64 n], .int .i64 k] w fun v w' => v = .bool true ∧ RowKit.Below w.heap.size w w' := by
  have dt : ∀ e : Int, decide (e = e) = true := fun e => decide_eq_true rfl
  have hcn : cnt04w k ≤ 3 ∧ 1 ≤ cnt04w k := by unfold cnt04w; split <;> (try split) <;> omega
  refine run_culletlaw04_keeps16 (by simp) ?_
  simp only [c_culletlaw04_keeps16, WS, List.getElem_cons_zero, List.getElem_cons_succ, Option.isNone_some, Option.isNone_none, List.getD_cons_zero, List.getD_cons_succ, I.at, atL, atO, atP, evp, evs, retV, ↓reduceIte, Nat.reduceEqDiff, reduceCtorEq]
  refine X_box fun b w1 hro hlb hB => ?_
  have hro : Row w1 b [.int .i64 k', .bool fl, F, G, .int .u16 (x.v.toNat : Int), .int .i64 n] := hro
  have B := hB
  have hF := hF.up hB
  have hG := hG.up hB
  clear hB hlb
  simp (maxSteps := 1000000) (disch := omega) only [WS, List.getElem_cons_zero, List.getElem_cons_succ, Option.isNone_some, Option.isNone_none, List.getD_cons_zero, List.getD_cons_succ, I.at, atL, atO, atP, evp, evs, retV, ↓reduceIte, Nat.reduceEqDiff, reduceCtorEq, AS]
  refine X_call0 ((polys_Over16_spec w1).mono ?_)
  rintro r w2 ⟨hr, hB, -⟩
  have hF := hF.up hB
  have hG := hG.up hB
  have hro := hro.up hB
  have B := B.trans (hB.mono B.size)
  clear hB
  obtain ⟨bR, mvR, ivR, rfl, -, -⟩ := id hr
  have B2 := B.size
  have hr2 := hr
  have hro2 := hro
  have C : RowKit.Below w2.heap.size w2 w2 := RowKit.Below.refl _ _
  generalize hL1 : LF = L1
  have lL1 : L1.length ≤ 70368744175616 := by rw [← hL1]; exact lF
  generalize hL2 : LG = L2
  have lL2 : L2.length ≤ 70368744175616 := by rw [← hL2]; exact lG
  simp (maxSteps := 1000000) (disch := omega) only [WS, List.getElem_cons_zero, List.getElem_cons_succ, Option.isNone_some, Option.isNone_none, List.getD_cons_zero, List.getD_cons_succ, I.at, atL, atO, atP, evp, evs, retV, ↓reduceIte, Nat.reduceEqDiff, reduceCtorEq, AS, hro.Xld (show 2 < _ by simp)]
  rw [hL1] at hF
  refine X_call0 ((culletlaw04_roomy16_spec _ _ L1 hF lL1).mono ?_)
  rintro _ w3 ⟨hB, sF, rfl, oF⟩
  have q3 := hB.size
  have C := C.trans (hB.mono C.size)
  have hr := hr.up hB
  have hro := hro.up hB
  have hG := hG.up hB
  have B := B.trans (hB.mono B.size)
  clear hB
  clear hF
  simp (maxSteps := 1000000) (disch := omega) only [WS, List.getElem_cons_zero, List.getElem_cons_succ, Option.isNone_some, Option.isNone_none, List.getD_cons_zero, List.getD_cons_succ, I.at, atL, atO, atP, evp, evs, retV, ↓reduceIte, Nat.reduceEqDiff, reduceCtorEq, AS, hro.Xld (show 3 < _ by simp)]
  rw [hL2] at hG
  have SG : w3.heap.size ≤ w3.heap.size := by omega
  refine X_call0 ((culletlaw04_roomy16_spec _ _ L2 hG lL2).mono ?_)
  rintro _ w4 ⟨hB, sG, rfl, oG⟩
  have q4 := hB.size
  have C := C.trans (hB.mono C.size)
  have hr := hr.up hB
  have hro := hro.up hB
  have oF := oF.up hB
  have B := B.trans (hB.mono B.size)
  clear hB
  clear hG
  have lV1 : (L1 ++ mkw).length = L1.length + 8 := by rw [List.length_append, mkw_len]
  have tV1 : (L1 ++ mkw).take L1.length = L1 := by simp
  have lV2 : (L2 ++ mkw).length = L2.length + 8 := by rw [List.length_append, mkw_len]
  have tV2 : (L2 ++ mkw).take L2.length = L2 := by simp
  obtain ⟨xF, rfl⟩ : ∃ x : Hd, sF = Cell.v x := ⟨hd sF, oF.sl.hd.1.symm⟩
  obtain ⟨xG, rfl⟩ : ∃ x : Hd, sG = Cell.v x := ⟨hd sG, oG.sl.hd.1.symm⟩
  generalize L1 ++ mkw = V1 at oF lV1 tV1
  generalize L2 ++ mkw = V2 at oG lV2 tV2
  have hle1 : ∀ V : List (El 16), V.length = L1.length + 8 → L1.length ≤ V.length := fun V h => by omega
  have hle2 : ∀ V : List (El 16), V.length = L2.length + 8 → L2.length ≤ V.length := fun V h => by omega
  have tkl1 : ∀ V : List (El 16), V.length = L1.length + 8 → (V.take L1.length).length = L1.length := fun V h => by rw [List.length_take]; omega
  have tkl2 : ∀ V : List (El 16), V.length = L2.length + 8 → (V.take L2.length).length = L2.length := fun V h => by rw [List.length_take]; omega
  have osub1 : ∀ {lo hi : Nat} (u : World) (V : List (El 16)), V.length = L1.length + 8 → Seg lo hi u (Cell.v xF) V → Sl u (Fw.sub (Cell.v xF) 0 L1.length) (V.take L1.length) := fun u V h1 h2 => (h2.own.sub0 (hle1 V h1)).sl
  have osub2 : ∀ {lo hi : Nat} (u : World) (V : List (El 16)), V.length = L2.length + 8 → Seg lo hi u (Cell.v xG) V → Sl u (Fw.sub (Cell.v xG) 0 L2.length) (V.take L2.length) := fun u V h1 h2 => (h2.own.sub0 (hle2 V h1)).sl
  simp (maxSteps := 1000000) (disch := omega) only [WS, List.getElem_cons_zero, List.getElem_cons_succ, Option.isNone_some, Option.isNone_none, List.getD_cons_zero, List.getD_cons_succ, I.at, atL, atO, atP, evp, evs, retV, ↓reduceIte, Nat.reduceEqDiff, reduceCtorEq, AS]
  refine X_bsl (zs := [xF, xG]) (fill2hw xF xG) (by rfl) fun s1 w5 o1 hB => ?_
  have C := C.trans (hB.mono C.size)
  have q5 := hB.size
  have oF := oF.up hB
  have oG := oG.up hB
  have hr := hr.up hB
  have hro := hro.up hB
  have B := B.trans (hB.mono B.size)
  clear hB
  simp (maxSteps := 1000000) (disch := omega) only [WS, List.getElem_cons_zero, List.getElem_cons_succ, Option.isNone_some, Option.isNone_none, List.getD_cons_zero, List.getD_cons_succ, I.at, atL, atO, atP, evp, evs, retV, ↓reduceIte, Nat.reduceEqDiff, reduceCtorEq, AS]
  refine X_call0 ((culletlaw04_copies16_spec w5 s1 [xF, xG] _ (rl2w o1.sl oF.sl oG.sl (by omega) (by omega))).mono ?_)
  rintro s2 w6 ⟨hB, hs2, lh2, g2⟩
  have C := C.trans (hB.mono C.size)
  have q6 := hB.size
  have oF := oF.up hB
  have oG := oG.up hB
  have hr := hr.up hB
  have hro := hro.up hB
  have B := B.trans (hB.mono B.size)
  clear hB
  clear o1
  have f1 := osub1 w6 V1 lV1 oF
  have f2 := osub2 w6 V2 lV2 oG
  rw [tV1] at f1
  rw [tV2] at f2
  simp (maxSteps := 1000000) (disch := omega) only [WS, List.getElem_cons_zero, List.getElem_cons_succ, Option.isNone_some, Option.isNone_none, List.getD_cons_zero, List.getD_cons_succ, I.at, atL, atO, atP, evp, evs, retV, ↓reduceIte, Nat.reduceEqDiff, reduceCtorEq, AS, hro.Xld (show 5 < _ by simp)]
  refine X_call0 ((culletlaw04_calls16_spec w6 _ _ _ L1 L2 k n hr f1 f2 lL1 lL2 hk).mono ?_)
  rintro sa w7 ⟨hB, hsA, RA, lA, gA, anA, lRA⟩
  have C := C.trans (hB.mono C.size)
  have q7 := hB.size
  have oF := oF.up hB
  have oG := oG.up hB
  have hr := hr.up hB
  have hro := hro.up hB
  have g2 := g2.up hB
  have f1 := f1.up hB
  have f2 := f2.up hB
  have B := B.trans (hB.mono B.size)
  clear hB
  have lRA' : ∀ j, j < hsA.length → (RA j).length ≤ 70368744175640 := fun j hj => by have := lRA j (by omega); omega
  simp (maxSteps := 1000000) (disch := omega) only [WS, List.getElem_cons_zero, List.getElem_cons_succ, Option.isNone_some, Option.isNone_none, List.getD_cons_zero, List.getD_cons_succ, I.at, atL, atO, atP, evp, evs, retV, ↓reduceIte, Nat.reduceEqDiff, reduceCtorEq, AS]
  refine X_call0 ((culletlaw04_copies16_spec w7 sa hsA RA (rglw gA lRA' (by omega))).mono ?_)
  rintro s3 w8 ⟨hB, hsW, lW, gW⟩
  have C := C.trans (hB.mono C.size)
  have q8 := hB.size
  have oF := oF.up hB
  have oG := oG.up hB
  have hr := hr.up hB
  have hro := hro.up hB
  have g2 := g2.up hB
  have f1 := f1.up hB
  have f2 := f2.up hB
  have gA := gA.up hB
  have B := B.trans (hB.mono B.size)
  clear hB
  simp (maxSteps := 1000000) (disch := omega) only [WS, List.getElem_cons_zero, List.getElem_cons_succ, Option.isNone_some, Option.isNone_none, List.getD_cons_zero, List.getD_cons_succ, I.at, atL, atO, atP, evp, evs, retV, ↓reduceIte, Nat.reduceEqDiff, reduceCtorEq, AS, hro.Xld (show 5 < _ by simp)]
  refine X_call0 ((culletlaw04_calls16_spec w8 _ _ _ L1 L2 k n hr f1 f2 lL1 lL2 hk).mono ?_)
  rintro sb w9 ⟨hB, hsB, RB, lB, gB, anB, -⟩
  have C := C.trans (hB.mono C.size)
  have q9 := hB.size
  have oF := oF.up hB
  have oG := oG.up hB
  have hr := hr.up hB
  have hro := hro.up hB
  have g2 := g2.up hB
  have gA := gA.up hB
  have gW := gW.up hB
  have B := B.trans (hB.mono B.size)
  clear hB
  have gB := gB.congr (R' := RA) fun j hj => anA.uniq anB j (by omega)
  clear anA anB f1 f2
  have lRW : ∀ j, j < hsW.length → (RA j).length ≤ 70368744175640 := fun j hj => lRA' j (by omega)
  have lRB : ∀ j, j < hsB.length → (RA j).length ≤ 70368744175640 := fun j hj => lRA' j (by omega)
  simp (maxSteps := 1000000) (disch := omega) only [WS, List.getElem_cons_zero, List.getElem_cons_succ, Option.isNone_some, Option.isNone_none, List.getD_cons_zero, List.getD_cons_succ, I.at, atL, atO, atP, evp, evs, retV, ↓reduceIte, Nat.reduceEqDiff, reduceCtorEq, AS]
  refine X_call0 ((culletlaw04_alike16_spec w9 sb s3 hsB hsW RA (rglw gB lRB (by omega)) (rglw gW lRW (by omega)) (by omega)).mono ?_)
  rintro _ w10 ⟨rfl, hB⟩
  have C := C.trans (hB.mono C.size)
  have q10 := hB.size
  have oF := oF.up hB
  have oG := oG.up hB
  have hr := hr.up hB
  have hro := hro.up hB
  have g2 := g2.up hB
  have gA := gA.up hB
  have gW := gW.up hB
  have gB := gB.up hB
  have B := B.trans (hB.mono B.size)
  clear hB
  simp (maxSteps := 1000000) (disch := omega) only [WS, List.getElem_cons_zero, List.getElem_cons_succ, Option.isNone_some, Option.isNone_none, List.getD_cons_zero, List.getD_cons_succ, I.at, atL, atO, atP, evp, evs, retV, ↓reduceIte, Nat.reduceEqDiff, reduceCtorEq, AS]
  refine X_bsl (zs := [xF, xG]) (fill2hw xF xG) (by rfl) fun s4 w11 o4 hB => ?_
  have C := C.trans (hB.mono C.size)
  have q11 := hB.size
  have oF := oF.up hB
  have oG := oG.up hB
  have hr := hr.up hB
  have hro := hro.up hB
  have g2 := g2.up hB
  have gA := gA.up hB
  have gW := gW.up hB
  have gB := gB.up hB
  have B := B.trans (hB.mono B.size)
  clear hB
  simp (maxSteps := 1000000) (disch := omega) only [WS, List.getElem_cons_zero, List.getElem_cons_succ, Option.isNone_some, Option.isNone_none, List.getD_cons_zero, List.getD_cons_succ, I.at, atL, atO, atP, evp, evs, retV, ↓reduceIte, Nat.reduceEqDiff, reduceCtorEq, AS]
  refine X_call0 ((culletlaw04_alike16_spec w11 s4 s2 [xF, xG] hs2 _ (rl2w o4.sl oF.sl oG.sl (by omega) (by omega)) (rglw g2 (fun j hj => by unfold p2w; split <;> omega) (by rw [lh2]; simp)) lh2.symm).mono ?_)
  rintro _ w12 ⟨rfl, hB⟩
  have C := C.trans (hB.mono C.size)
  have q12 := hB.size
  have oF := oF.up hB
  have oG := oG.up hB
  have gA := gA.up hB
  have gW := gW.up hB
  have gB := gB.up hB
  have B := B.trans (hB.mono B.size)
  clear hB
  clear hr hro g2 o4
  simp (maxSteps := 1000000) (disch := omega) only [WS, List.getElem_cons_zero, List.getElem_cons_succ, Option.isNone_some, Option.isNone_none, List.getD_cons_zero, List.getD_cons_succ, I.at, atL, atO, atP, evp, evs, retV, ↓reduceIte, Nat.reduceEqDiff, reduceCtorEq, AS]
  -- both lists are turned
  have B12 := B
  have C12 := C
  refine loop_of (fun t u => t 2 = .pointer (some ⟨b, 0, none⟩) ∧ t 1 = .int .i64 k ∧ t 5 = .pointer (some ⟨bR, 0, none⟩) ∧ t 6 = Cell.v xF ∧ t 7 = Fw.sub (Cell.v xF) 0 L1.length ∧ t 8 = Cell.v xG ∧ t 9 = Fw.sub (Cell.v xG) 0 L2.length ∧ t 11 = sa ∧ t 12 = s3 ∧ t 13 = sb ∧ RowKit.Below w.heap.size w u ∧ RowKit.Below w2.heap.size w2 u ∧ Out w2.heap.size w4.heap.size w12 u ∧ ∃ (i : Nat) (V : List (El 16)), t 14 = .int .i64 (i : Int) ∧ i ≤ L1.length ∧ Seg w2.heap.size w3.heap.size u (Cell.v xF) V ∧ V.length = L1.length + 8 ∧ Seg w3.heap.size w4.heap.size u (Cell.v xG) V2)
    (fun t _ => L1.length - (toI (t 14)).toNat) ⟨by simp only [WS, List.getElem_cons_zero, List.getElem_cons_succ, Option.isNone_some, Option.isNone_none, List.getD_cons_zero, List.getD_cons_succ, I.at, atL, atO, atP, evp, evs, retV, ↓reduceIte, Nat.reduceEqDiff, reduceCtorEq], by simp only [WS, List.getElem_cons_zero, List.getElem_cons_succ, Option.isNone_some, Option.isNone_none, List.getD_cons_zero, List.getD_cons_succ, I.at, atL, atO, atP, evp, evs, retV, ↓reduceIte, Nat.reduceEqDiff, reduceCtorEq], by simp only [WS, List.getElem_cons_zero, List.getElem_cons_succ, Option.isNone_some, Option.isNone_none, List.getD_cons_zero, List.getD_cons_succ, I.at, atL, atO, atP, evp, evs, retV, ↓reduceIte, Nat.reduceEqDiff, reduceCtorEq], by simp only [WS, List.getElem_cons_zero, List.getElem_cons_succ, Option.isNone_some, Option.isNone_none, List.getD_cons_zero, List.getD_cons_succ, I.at, atL, atO, atP, evp, evs, retV, ↓reduceIte, Nat.reduceEqDiff, reduceCtorEq], by simp only [WS, List.getElem_cons_zero, List.getElem_cons_succ, Option.isNone_some, Option.isNone_none, List.getD_cons_zero, List.getD_cons_succ, I.at, atL, atO, atP, evp, evs, retV, ↓reduceIte, Nat.reduceEqDiff, reduceCtorEq], by simp only [WS, List.getElem_cons_zero, List.getElem_cons_succ, Option.isNone_some, Option.isNone_none, List.getD_cons_zero, List.getD_cons_succ, I.at, atL, atO, atP, evp, evs, retV, ↓reduceIte, Nat.reduceEqDiff, reduceCtorEq], by simp only [WS, List.getElem_cons_zero, List.getElem_cons_succ, Option.isNone_some, Option.isNone_none, List.getD_cons_zero, List.getD_cons_succ, I.at, atL, atO, atP, evp, evs, retV, ↓reduceIte, Nat.reduceEqDiff, reduceCtorEq], by simp only [WS, List.getElem_cons_zero, List.getElem_cons_succ, Option.isNone_some, Option.isNone_none, List.getD_cons_zero, List.getD_cons_succ, I.at, atL, atO, atP, evp, evs, retV, ↓reduceIte, Nat.reduceEqDiff, reduceCtorEq], by simp only [WS, List.getElem_cons_zero, List.getElem_cons_succ, Option.isNone_some, Option.isNone_none, List.getD_cons_zero, List.getD_cons_succ, I.at, atL, atO, atP, evp, evs, retV, ↓reduceIte, Nat.reduceEqDiff, reduceCtorEq], by simp only [WS, List.getElem_cons_zero, List.getElem_cons_succ, Option.isNone_some, Option.isNone_none, List.getD_cons_zero, List.getD_cons_succ, I.at, atL, atO, atP, evp, evs, retV, ↓reduceIte, Nat.reduceEqDiff, reduceCtorEq], B, C, Out.refl _ _ _, 0, V1, rfl, by omega, oF, lV1, oG⟩ ?_
  clear B C oF lV1 tV1 tV2 oG
  rintro t w13 ⟨t2, t1, t5, t6, t7, t8, t9, t11, t12, t13, B, C, hO, i, V1', t14, hi, oF, lV1, oG⟩
  by_cases hil : i < L1.length
  · have iV : i < V1'.length := by omega
    have hsub := osub1 _ V1' lV1 oF
    have hel : elP (Fw.sub (Cell.v xF) 0 L1.length) i = elP (Cell.v xF) i := by rw [elP_sub oF.sl (show 0 < L1.length by omega) (hle1 V1' lV1), Nat.zero_add]
    have hix := hsub.Xix (k := .i64) (i := i) (by rw [tkl1 V1' lV1]; exact hil) Try.prog
    rw [hel] at hix
    obtain ⟨y, hy⟩ := u16_elm (IntKind.u16.wrap ((V1'[i].v.toNat : Int) * 3) + 1)
    simp (maxSteps := 1000000) (disch := omega) only [WS, List.getElem_cons_zero, List.getElem_cons_succ, Option.isNone_some, Option.isNone_none, List.getD_cons_zero, List.getD_cons_succ, I.at, atL, atO, atP, evp, evs, retV, ↓reduceIte, Nat.reduceEqDiff, reduceCtorEq, AS, t1, t2, t5, t6, t7, t8, t9, t11, t12, t13, t14, hsub.Xlen, tkl1 V1' lV1, hix, oF.sl.Xld iV, cell_e16, hy]
    refine oF.Xst iV y fun w23 c oF2 hg hc1 hc2 => ?_
    simp (maxSteps := 1000000) (disch := omega) only [WS, List.getElem_cons_zero, List.getElem_cons_succ, Option.isNone_some, Option.isNone_none, List.getD_cons_zero, List.getD_cons_succ, I.at, atL, atO, atP, evp, evs, retV, ↓reduceIte, Nat.reduceEqDiff, reduceCtorEq, AS, t1, t2, t5, t6, t7, t8, t9, t11, t12, t13, t14]
    exact ⟨⟨B.grown hg B.size (fun b hb => by cases hb; omega), C.grown hg C.size (fun b hb => by cases hb; omega), hO.grown hg (by omega) (by omega), i + 1, _, rfl, by omega, oF2, by rw [List.length_set]; exact lV1, oG.grown hg (by omega)⟩, by omega⟩
  have hiL : i = L1.length := by omega
  rw [hiL] at t14
  have hsub := osub1 _ V1' lV1 oF
  simp (maxSteps := 1000000) (disch := omega) only [WS, List.getElem_cons_zero, List.getElem_cons_succ, Option.isNone_some, Option.isNone_none, List.getD_cons_zero, List.getD_cons_succ, I.at, atL, atO, atP, evp, evs, retV, ↓reduceIte, Nat.reduceEqDiff, reduceCtorEq, AS, t1, t2, t5, t6, t7, t8, t9, t11, t12, t13, t14, hsub.Xlen, tkl1 V1' lV1]
  refine loop_of (fun t u => t 2 = .pointer (some ⟨b, 0, none⟩) ∧ t 1 = .int .i64 k ∧ t 5 = .pointer (some ⟨bR, 0, none⟩) ∧ t 6 = Cell.v xF ∧ t 7 = Fw.sub (Cell.v xF) 0 L1.length ∧ t 8 = Cell.v xG ∧ t 9 = Fw.sub (Cell.v xG) 0 L2.length ∧ t 11 = sa ∧ t 12 = s3 ∧ t 13 = sb ∧ RowKit.Below w.heap.size w u ∧ RowKit.Below w2.heap.size w2 u ∧ Out w2.heap.size w4.heap.size w12 u ∧ ∃ (i : Nat) (V : List (El 16)), t 15 = .int .i64 (i : Int) ∧ i ≤ L2.length ∧ Seg w3.heap.size w4.heap.size u (Cell.v xG) V ∧ V.length = L2.length + 8 ∧ Seg w2.heap.size w3.heap.size u (Cell.v xF) V1')
    (fun t _ => L2.length - (toI (t 15)).toNat) ⟨by simp only [WS, List.getElem_cons_zero, List.getElem_cons_succ, Option.isNone_some, Option.isNone_none, List.getD_cons_zero, List.getD_cons_succ, I.at, atL, atO, atP, evp, evs, retV, ↓reduceIte, Nat.reduceEqDiff, reduceCtorEq]; exact t2, by simp only [WS, List.getElem_cons_zero, List.getElem_cons_succ, Option.isNone_some, Option.isNone_none, List.getD_cons_zero, List.getD_cons_succ, I.at, atL, atO, atP, evp, evs, retV, ↓reduceIte, Nat.reduceEqDiff, reduceCtorEq]; exact t1, by simp only [WS, List.getElem_cons_zero, List.getElem_cons_succ, Option.isNone_some, Option.isNone_none, List.getD_cons_zero, List.getD_cons_succ, I.at, atL, atO, atP, evp, evs, retV, ↓reduceIte, Nat.reduceEqDiff, reduceCtorEq]; exact t5, by simp only [WS, List.getElem_cons_zero, List.getElem_cons_succ, Option.isNone_some, Option.isNone_none, List.getD_cons_zero, List.getD_cons_succ, I.at, atL, atO, atP, evp, evs, retV, ↓reduceIte, Nat.reduceEqDiff, reduceCtorEq]; exact t6, by simp only [WS, List.getElem_cons_zero, List.getElem_cons_succ, Option.isNone_some, Option.isNone_none, List.getD_cons_zero, List.getD_cons_succ, I.at, atL, atO, atP, evp, evs, retV, ↓reduceIte, Nat.reduceEqDiff, reduceCtorEq]; exact t7, by simp only [WS, List.getElem_cons_zero, List.getElem_cons_succ, Option.isNone_some, Option.isNone_none, List.getD_cons_zero, List.getD_cons_succ, I.at, atL, atO, atP, evp, evs, retV, ↓reduceIte, Nat.reduceEqDiff, reduceCtorEq]; exact t8, by simp only [WS, List.getElem_cons_zero, List.getElem_cons_succ, Option.isNone_some, Option.isNone_none, List.getD_cons_zero, List.getD_cons_succ, I.at, atL, atO, atP, evp, evs, retV, ↓reduceIte, Nat.reduceEqDiff, reduceCtorEq]; exact t9, by simp only [WS, List.getElem_cons_zero, List.getElem_cons_succ, Option.isNone_some, Option.isNone_none, List.getD_cons_zero, List.getD_cons_succ, I.at, atL, atO, atP, evp, evs, retV, ↓reduceIte, Nat.reduceEqDiff, reduceCtorEq]; exact t11, by simp only [WS, List.getElem_cons_zero, List.getElem_cons_succ, Option.isNone_some, Option.isNone_none, List.getD_cons_zero, List.getD_cons_succ, I.at, atL, atO, atP, evp, evs, retV, ↓reduceIte, Nat.reduceEqDiff, reduceCtorEq]; exact t12, by simp only [WS, List.getElem_cons_zero, List.getElem_cons_succ, Option.isNone_some, Option.isNone_none, List.getD_cons_zero, List.getD_cons_succ, I.at, atL, atO, atP, evp, evs, retV, ↓reduceIte, Nat.reduceEqDiff, reduceCtorEq]; exact t13, B, C, hO, 0, V2, rfl, by omega, oG, lV2, oF⟩ ?_
  clear B C hO oF oG lV2 hsub t2 t1 t5 t6 t7 t8 t9 t11 t12 t13 t14
  rintro t w14 ⟨t2, t1, t5, t6, t7, t8, t9, t11, t12, t13, B, C, hO, i2, V2', t15, hi2, oG, lV2, oF⟩
  by_cases hil : i2 < L2.length
  · have iV : i2 < V2'.length := by omega
    have hsub := osub2 _ V2' lV2 oG
    have hel : elP (Fw.sub (Cell.v xG) 0 L2.length) i2 = elP (Cell.v xG) i2 := by rw [elP_sub oG.sl (show 0 < L2.length by omega) (hle2 V2' lV2), Nat.zero_add]
    have hix := hsub.Xix (k := .i64) (i := i2) (by rw [tkl2 V2' lV2]; exact hil) Try.prog
    rw [hel] at hix
    obtain ⟨y, hy⟩ := u16_elm (IntKind.u16.wrap ((V2'[i2].v.toNat : Int) * 3) + 1)
    simp (maxSteps := 1000000) (disch := omega) only [WS, List.getElem_cons_zero, List.getElem_cons_succ, Option.isNone_some, Option.isNone_none, List.getD_cons_zero, List.getD_cons_succ, I.at, atL, atO, atP, evp, evs, retV, ↓reduceIte, Nat.reduceEqDiff, reduceCtorEq, AS, t1, t2, t5, t6, t7, t8, t9, t11, t12, t13, t15, hsub.Xlen, tkl2 V2' lV2, hix, oG.sl.Xld iV, cell_e16, hy]
    refine oG.Xst iV y fun w23 c oG2 hg hc1 hc2 => ?_
    simp (maxSteps := 1000000) (disch := omega) only [WS, List.getElem_cons_zero, List.getElem_cons_succ, Option.isNone_some, Option.isNone_none, List.getD_cons_zero, List.getD_cons_succ, I.at, atL, atO, atP, evp, evs, retV, ↓reduceIte, Nat.reduceEqDiff, reduceCtorEq, AS, t1, t2, t5, t6, t7, t8, t9, t11, t12, t13, t15]
    exact ⟨⟨B.grown hg B.size (fun b hb => by cases hb; omega), C.grown hg C.size (fun b hb => by cases hb; omega), hO.grown hg (by omega) (by omega), i2 + 1, _, rfl, by omega, oG2, by rw [List.length_set]; exact lV2, oF.grown hg (by omega)⟩, by omega⟩
  have hiL2 : i2 = L2.length := by omega
  rw [hiL2] at t15
  have hsub := osub2 _ V2' lV2 oG
  have gA := gA.out hO (Or.inr (by omega))
  have gW := gW.out hO (Or.inr (by omega))
  have gB := gB.out hO (Or.inr (by omega))
  have q14 := hO.sz
  have hr := hr2.up C
  have hro := hro2.up C
  clear hO
  simp (maxSteps := 1000000) (disch := omega) only [WS, List.getElem_cons_zero, List.getElem_cons_succ, Option.isNone_some, Option.isNone_none, List.getD_cons_zero, List.getD_cons_succ, I.at, atL, atO, atP, evp, evs, retV, ↓reduceIte, Nat.reduceEqDiff, reduceCtorEq, AS, t1, t2, t5, t6, t7, t8, t9, t11, t12, t13, t15, hsub.Xlen, tkl2 V2' lV2]
  refine X_bsl (zs := [xF, xG]) (fill2hw xF xG) (by rfl) fun s5 w15 o5 hB => ?_
  have C := C.trans (hB.mono C.size)
  have q15 := hB.size
  have oF := oF.up hB
  have oG := oG.up hB
  have hr := hr.up hB
  have hro := hro.up hB
  have gA := gA.up hB
  have gW := gW.up hB
  have gB := gB.up hB
  have B := B.trans (hB.mono B.size)
  clear hB
  simp (maxSteps := 1000000) (disch := omega) only [WS, List.getElem_cons_zero, List.getElem_cons_succ, Option.isNone_some, Option.isNone_none, List.getD_cons_zero, List.getD_cons_succ, I.at, atL, atO, atP, evp, evs, retV, ↓reduceIte, Nat.reduceEqDiff, reduceCtorEq, AS, t1, t2, t5, t6, t7, t8, t9, t11, t12, t13]
  refine X_call0 ((culletlaw04_copies16_spec w15 s5 [xF, xG] _ (rl2w o5.sl oF.sl oG.sl (by omega) (by omega))).mono ?_)
  rintro s6 w16 ⟨hB, hsT, lT, gT⟩
  have C := C.trans (hB.mono C.size)
  have q16 := hB.size
  have oF := oF.up hB
  have oG := oG.up hB
  have hr := hr.up hB
  have hro := hro.up hB
  have gA := gA.up hB
  have gW := gW.up hB
  have gB := gB.up hB
  have B := B.trans (hB.mono B.size)
  clear hB
  clear o5
  simp (maxSteps := 1000000) (disch := omega) only [WS, List.getElem_cons_zero, List.getElem_cons_succ, Option.isNone_some, Option.isNone_none, List.getD_cons_zero, List.getD_cons_succ, I.at, atL, atO, atP, evp, evs, retV, ↓reduceIte, Nat.reduceEqDiff, reduceCtorEq, AS, t1, t2, t5, t6, t7, t8, t9, t11, t12, t13]
  refine X_call0 ((culletlaw04_alike16_spec w16 sa s3 hsA hsW RA (rglw gA lRA' (by omega)) (rglw gW lRW (by omega)) (by omega)).mono ?_)
  rintro _ w17 ⟨rfl, hB⟩
  have C := C.trans (hB.mono C.size)
  have q17 := hB.size
  have oF := oF.up hB
  have oG := oG.up hB
  have hr := hr.up hB
  have hro := hro.up hB
  have gA := gA.up hB
  have gW := gW.up hB
  have gB := gB.up hB
  have gT := gT.up hB
  have B := B.trans (hB.mono B.size)
  clear hB
  simp (maxSteps := 1000000) (disch := omega) only [WS, List.getElem_cons_zero, List.getElem_cons_succ, Option.isNone_some, Option.isNone_none, List.getD_cons_zero, List.getD_cons_succ, I.at, atL, atO, atP, evp, evs, retV, ↓reduceIte, Nat.reduceEqDiff, reduceCtorEq, AS, t1, t2, t5, t6, t7, t8, t9, t11, t12, t13]
  refine X_call0 ((culletlaw04_alike16_spec w17 sb s3 hsB hsW RA (rglw gB lRB (by omega)) (rglw gW lRW (by omega)) (by omega)).mono ?_)
  rintro _ w18 ⟨rfl, hB⟩
  have C := C.trans (hB.mono C.size)
  have q18 := hB.size
  have oF := oF.up hB
  have oG := oG.up hB
  have hr := hr.up hB
  have hro := hro.up hB
  have gA := gA.up hB
  have gW := gW.up hB
  have gB := gB.up hB
  have gT := gT.up hB
  have B := B.trans (hB.mono B.size)
  clear hB
  have f1 := osub1 w18 V1' lV1 oF
  have f2 := osub2 w18 V2' lV2 oG
  have m1 := tkl1 V1' lV1
  have m2 := tkl2 V2' lV2
  generalize V1'.take L1.length = D1 at f1 m1
  generalize V2'.take L2.length = D2 at f2 m2
  simp (maxSteps := 1000000) (disch := omega) only [WS, List.getElem_cons_zero, List.getElem_cons_succ, Option.isNone_some, Option.isNone_none, List.getD_cons_zero, List.getD_cons_succ, I.at, atL, atO, atP, evp, evs, retV, ↓reduceIte, Nat.reduceEqDiff, reduceCtorEq, AS, t1, t2, t5, t6, t7, t8, t9, t11, t12, t13, hro.Xld (show 5 < _ by simp)]
  refine X_call0 ((culletlaw04_calls16_spec w18 _ _ _ D1 D2 k n hr f1 f2 (by omega) (by omega) hk).mono ?_)
  rintro sc w19 ⟨hB, hsC, RC, lC, gC, anC, lRC⟩
  have C := C.trans (hB.mono C.size)
  have q19 := hB.size
  have oF := oF.up hB
  have oG := oG.up hB
  have hro := hro.up hB
  have gA := gA.up hB
  have gW := gW.up hB
  have gB := gB.up hB
  have gT := gT.up hB
  have f1 := f1.up hB
  have f2 := f2.up hB
  have B := B.trans (hB.mono B.size)
  clear hB
  clear hr
  have lRC' : ∀ j, j < hsC.length → (RC j).length ≤ 70368744175640 := fun j hj => by have := lRC j (by omega); omega
  obtain ⟨yF, hyF⟩ : ∃ x : Hd, Fw.sub (Cell.v xF) 0 L1.length = Cell.v x := ⟨hd _, f1.hd.1.symm⟩
  obtain ⟨yG, hyG⟩ : ∃ x : Hd, Fw.sub (Cell.v xG) 0 L2.length = Cell.v x := ⟨hd _, f2.hd.1.symm⟩
  rw [hyF] at f1 t7
  rw [hyG] at f2 t9
  simp (maxSteps := 1000000) (disch := omega) only [WS, List.getElem_cons_zero, List.getElem_cons_succ, Option.isNone_some, Option.isNone_none, List.getD_cons_zero, List.getD_cons_succ, I.at, atL, atO, atP, evp, evs, retV, ↓reduceIte, Nat.reduceEqDiff, reduceCtorEq, AS, t1, t2, t5, t6, t7, t8, t9, t11, t12, t13]
  refine X_bsl (zs := [yF, yG]) (fill2hw yF yG) (by rfl) fun s7 w20 o7 hB => ?_
  have C := C.trans (hB.mono C.size)
  have q20 := hB.size
  have oF := oF.up hB
  have oG := oG.up hB
  have hro := hro.up hB
  have gA := gA.up hB
  have gW := gW.up hB
  have gB := gB.up hB
  have gT := gT.up hB
  have gC := gC.up hB
  have f1 := f1.up hB
  have f2 := f2.up hB
  have B := B.trans (hB.mono B.size)
  clear hB
  simp (maxSteps := 1000000) (disch := omega) only [WS, List.getElem_cons_zero, List.getElem_cons_succ, Option.isNone_some, Option.isNone_none, List.getD_cons_zero, List.getD_cons_succ, I.at, atL, atO, atP, evp, evs, retV, ↓reduceIte, Nat.reduceEqDiff, reduceCtorEq, AS, t1, t2, t5, t6, t7, t8, t9, t11, t12, t13]
  refine X_call0 ((culletlaw04_copies16_spec w20 s7 [yF, yG] _ (rl2w o7.sl f1 f2 (by omega) (by omega))).mono ?_)
  rintro s8 w21 ⟨hB, hsF, lFr, gF⟩
  have C := C.trans (hB.mono C.size)
  have q21 := hB.size
  have oF := oF.up hB
  have oG := oG.up hB
  have hro := hro.up hB
  have gA := gA.up hB
  have gW := gW.up hB
  have gB := gB.up hB
  have gT := gT.up hB
  have gC := gC.up hB
  have B := B.trans (hB.mono B.size)
  clear hB
  clear o7 f1 f2
  have lFr2 : hsF.length = 2 := lFr
  have j0 : 0 < hsF.length := by omega
  have j1 : 1 < hsF.length := by omega
  simp (maxSteps := 1000000) (disch := omega) only [WS, List.getElem_cons_zero, List.getElem_cons_succ, Option.isNone_some, Option.isNone_none, List.getD_cons_zero, List.getD_cons_succ, I.at, atL, atO, atP, evp, evs, retV, ↓reduceIte, Nat.reduceEqDiff, reduceCtorEq, AS, t1, t2, t5, t6, t7, t8, t9, t11, t12, t13]
  refine WP_dops ?_
  have hB := bel_drew w21
  have C := C.trans (hB.mono C.size)
  have q22 := hB.size
  have oF := oF.up hB
  have oG := oG.up hB
  have hro := hro.up hB
  have gA := gA.up hB
  have gW := gW.up hB
  have gB := gB.up hB
  have gT := gT.up hB
  have gC := gC.up hB
  have gF := gF.up hB
  have B := B.trans (hB.mono B.size)
  clear hB
  simp (maxSteps := 1000000) (disch := omega) only [ES, List.mem_cons, List.not_mem_nil, implies_true, forall_const, WS, List.getElem_cons_zero, List.getElem_cons_succ, Option.isNone_some, Option.isNone_none, List.getD_cons_zero, List.getD_cons_succ, I.at, atL, atO, atP, evp, evs, retV, ↓reduceIte, Nat.reduceEqDiff, reduceCtorEq, AS, t1, t2, t5, t6, t7, t8, t9, t11, t12, t13]
  refine E_call0 ((polys_Over16_spec w21.drew).mono ?_)
  rintro r2 w22 ⟨hrn, hB, -⟩
  obtain ⟨bR2, mvR2, ivR2, rfl, -, -⟩ := id hrn
  have z0 : Fw.sees Try.prog (.ld (.c (elP s8 0))) w21.drew (Cell.v hsF[0]) = True := gF.top.sl.sees j0 Try.prog
  have z1 : Fw.sees Try.prog (.ld (.c (elP s8 1))) w21.drew (Cell.v hsF[1]) = True := gF.top.sl.sees j1 Try.prog
  have z5 : Fw.sees Try.prog (.ld (.c (.pointer (some ⟨b, 5, none⟩)))) w21.drew (.int .i64 n) = True := hro.sees (o := 5) (by simp) Try.prog
  have C := C.trans (hB.mono C.size)
  have q23 := hB.size
  have oF := oF.up hB
  have oG := oG.up hB
  have hro := hro.up hB
  have gA := gA.up hB
  have gW := gW.up hB
  have gB := gB.up hB
  have gT := gT.up hB
  have gC := gC.up hB
  have gF := gF.up hB
  have B := B.trans (hB.mono B.size)
  clear hB
  simp (maxSteps := 1000000) (disch := omega) only [ES, List.mem_cons, List.not_mem_nil, implies_true, forall_const, WS, List.getElem_cons_zero, List.getElem_cons_succ, Option.isNone_some, Option.isNone_none, List.getD_cons_zero, List.getD_cons_succ, I.at, atL, atO, atP, evp, evs, retV, ↓reduceIte, Nat.reduceEqDiff, reduceCtorEq, AS, t1, t2, t5, t6, t7, t8, t9, t11, t12, t13, gF.top.sl.Eix0 j0, gF.top.sl.Eld j0, gF.top.sl.Eixc 1 1 rfl j1, gF.top.sl.Eld j1, hro.Eld (show 5 < _ by simp), z0, z1, z5]
  have r0 : Sl w22 (Cell.v hsF[0]) D1 := (gF.row 0 j0).sl
  have r1 : Sl w22 (Cell.v hsF[1]) D2 := (gF.row 1 j1).sl
  refine E_call0 ((culletlaw04_calls16_spec w22 _ _ _ D1 D2 k n hrn r0 r1 (by omega) (by omega) hk).mono ?_)
  rintro sd w23 ⟨hB, hsD, RD, lD, gD, anD, -⟩
  have q24 := hB.size
  have oF := oF.up hB
  have oG := oG.up hB
  have gA := gA.up hB
  have gW := gW.up hB
  have gB := gB.up hB
  have gT := gT.up hB
  have gC := gC.up hB
  have B := B.trans (hB.mono B.size)
  clear hB
  have gD := gD.congr (R' := RC) fun j hj => anC.uniq anD j (by omega)
  clear hro gF r0 r1 z0 z1 z5 anC anD hrn C
  have lRD : ∀ j, j < hsD.length → (RC j).length ≤ 70368744175640 := fun j hj => lRC' j (by omega)
  simp (maxSteps := 1000000) (disch := omega) only [ES, List.mem_cons, List.not_mem_nil, implies_true, forall_const, WS, List.getElem_cons_zero, List.getElem_cons_succ, Option.isNone_some, Option.isNone_none, List.getD_cons_zero, List.getD_cons_succ, I.at, atL, atO, atP, evp, evs, retV, ↓reduceIte, Nat.reduceEqDiff, reduceCtorEq, AS, t1, t2, t5, t6, t7, t8, t9, t11, t12, t13]
  refine X_call0 ((culletlaw04_alike16_spec w23 sc sd hsC hsD RC (rglw gC lRC' (by omega)) (rglw gD lRD (by omega)) (by omega)).mono ?_)
  rintro _ w24 ⟨rfl, hB⟩
  have q25 := hB.size
  have oF := oF.up hB
  have oG := oG.up hB
  have gA := gA.up hB
  have gW := gW.up hB
  have gB := gB.up hB
  have gT := gT.up hB
  have gC := gC.up hB
  have gD := gD.up hB
  have B := B.trans (hB.mono B.size)
  clear hB
  simp (maxSteps := 1000000) (disch := omega) only [WS, List.getElem_cons_zero, List.getElem_cons_succ, Option.isNone_some, Option.isNone_none, List.getD_cons_zero, List.getD_cons_succ, I.at, atL, atO, atP, evp, evs, retV, ↓reduceIte, Nat.reduceEqDiff, reduceCtorEq, AS, t1, t2, t5, t6, t7, t8, t9, t11, t12, t13]
  refine X_call0 ((culletlaw04_alike16_spec w24 sa s3 hsA hsW RA (rglw gA lRA' (by omega)) (rglw gW lRW (by omega)) (by omega)).mono ?_)
  rintro _ w25 ⟨rfl, hB⟩
  have q26 := hB.size
  have oF := oF.up hB
  have oG := oG.up hB
  have gA := gA.up hB
  have gW := gW.up hB
  have gB := gB.up hB
  have gT := gT.up hB
  have gC := gC.up hB
  have gD := gD.up hB
  have B := B.trans (hB.mono B.size)
  clear hB
  simp (maxSteps := 1000000) (disch := omega) only [WS, List.getElem_cons_zero, List.getElem_cons_succ, Option.isNone_some, Option.isNone_none, List.getD_cons_zero, List.getD_cons_succ, I.at, atL, atO, atP, evp, evs, retV, ↓reduceIte, Nat.reduceEqDiff, reduceCtorEq, AS, t1, t2, t5, t6, t7, t8, t9, t11, t12, t13]
  refine X_call0 ((culletlaw04_alike16_spec w25 sb s3 hsB hsW RA (rglw gB lRB (by omega)) (rglw gW lRW (by omega)) (by omega)).mono ?_)
  rintro _ w26 ⟨rfl, hB⟩
  have q27 := hB.size
  have oF := oF.up hB
  have oG := oG.up hB
  have gA := gA.up hB
  have gB := gB.up hB
  have gT := gT.up hB
  have gC := gC.up hB
  have gD := gD.up hB
  have B := B.trans (hB.mono B.size)
  clear hB
  clear gW
  simp (maxSteps := 1000000) (disch := omega) only [WS, List.getElem_cons_zero, List.getElem_cons_succ, Option.isNone_some, Option.isNone_none, List.getD_cons_zero, List.getD_cons_succ, I.at, atL, atO, atP, evp, evs, retV, ↓reduceIte, Nat.reduceEqDiff, reduceCtorEq, AS, t1, t2, t5, t6, t7, t8, t9, t11, t12, t13]
  -- all the lists
  have iA : ∀ e ∈ rowsE hsA RA, ∀ b, Fw.blk e.1 = some b → w6.heap.size ≤ b ∧ b < w7.heap.size := fun e he b hb => by
    obtain ⟨j, hj, rfl⟩ := rowsE_mem he
    exact ⟨(gA.row j hj).low b hb, (gA.row j hj).top b hb⟩
  have iB : ∀ e ∈ rowsE hsB RA, ∀ b, Fw.blk e.1 = some b → w8.heap.size ≤ b ∧ b < w9.heap.size := fun e he b hb => by
    obtain ⟨j, hj, rfl⟩ := rowsE_mem he
    exact ⟨(gB.row j hj).low b hb, (gB.row j hj).top b hb⟩
  have iC : ∀ e ∈ rowsE hsC RC, ∀ b, Fw.blk e.1 = some b → w18.heap.size ≤ b ∧ b < w19.heap.size := fun e he b hb => by
    obtain ⟨j, hj, rfl⟩ := rowsE_mem he
    exact ⟨(gC.row j hj).low b hb, (gC.row j hj).top b hb⟩
  have iD : ∀ e ∈ rowsE hsD RC, ∀ b, Fw.blk e.1 = some b → w22.heap.size ≤ b ∧ b < w23.heap.size := fun e he b hb => by
    obtain ⟨j, hj, rfl⟩ := rowsE_mem he
    exact ⟨(gD.row j hj).low b hb, (gD.row j hj).top b hb⟩
  have L1' : Lst (α := El 16) w.heap.size (rowsE hsA RA) w26 := gA.lst.mono (by omega)
  have L2' := L1'.app (gB.lst.mono (by omega)) fun e he f hf b hb hb2 => by
    have h1 := iA e he b hb
    have h2 := iB f hf b hb2
    omega
  have L3' := L2'.app (gC.lst.mono (by omega)) fun e he f hf b hb hb2 => by
    have h2 := iC f hf b hb2
    rcases List.mem_append.1 he with he | he
    · have h1 := iA e he b hb; omega
    · have h1 := iB e he b hb; omega
  have L4' := L3'.app (gD.lst.mono (by omega)) fun e he f hf b hb hb2 => by
    have h2 := iD f hf b hb2
    rcases List.mem_append.1 he with he | he
    · rcases List.mem_append.1 he with he | he
      · have h1 := iA e he b hb; omega
      · have h1 := iB e he b hb; omega
    · have h1 := iC e he b hb; omega
  clear L1' L2' L3'
  generalize hE : rowsE hsA RA ++ rowsE hsB RA ++ rowsE hsC RC ++ rowsE hsD RC = E at L4'
  have hEh : E.map (fun e => hd e.1) = (([] ++ hsA ++ hsB) ++ hsC) ++ hsD := by
    rw [← hE]
    simp only [List.map_append, rowsE_hd, List.nil_append]
  have hEb : ∀ e ∈ E, ∀ b, Fw.blk e.1 = some b → w6.heap.size ≤ b ∧ (b < w15.heap.size ∨ w16.heap.size ≤ b) ∧ b < w23.heap.size := fun e he b hb => by
    rw [← hE] at he
    rcases List.mem_append.1 he with he | he
    · rcases List.mem_append.1 he with he | he
      · rcases List.mem_append.1 he with he | he
        · have h1 := iA e he b hb; exact ⟨by omega, by omega, by omega⟩
        · have h1 := iB e he b hb; exact ⟨by omega, by omega, by omega⟩
      · have h1 := iC e he b hb; exact ⟨by omega, by omega, by omega⟩
    · have h1 := iD e he b hb; exact ⟨by omega, by omega, by omega⟩
  have hEl : ∀ e ∈ E, e.2.length ≤ 70368744175616 := fun e he => by
    rw [← hE] at he
    simp only [List.mem_append] at he
    rcases he with ((he | he) | he) | he
    · obtain ⟨j, hj, rfl⟩ := rowsE_mem he; exact lRA j (by omega)
    · obtain ⟨j, hj, rfl⟩ := rowsE_mem he; exact lRA j (by omega)
    · obtain ⟨j, hj, rfl⟩ := rowsE_mem he; exact lRC j (by omega)
    · obtain ⟨j, hj, rfl⟩ := rowsE_mem he; exact lRC j (by omega)
  have lE : E.length = hsA.length + hsB.length + hsC.length + hsD.length := by
    have := congrArg List.length hEh
    simp only [List.length_map, List.length_append, List.length_nil] at this
    omega
  clear iA iB iC iD hE
  refine X_bsl (zs := ([] : List Hd)) (by rfl) (by rfl) fun r1 w27 or1 hB => ?_
  have gA7 := gA.top.up hB
  simp (maxSteps := 1000000) (disch := omega) only [WS, List.getElem_cons_zero, List.getElem_cons_succ, Option.isNone_some, Option.isNone_none, List.getD_cons_zero, List.getD_cons_succ, I.at, atL, atO, atP, evp, evs, retV, ↓reduceIte, Nat.reduceEqDiff, reduceCtorEq, AS, t1, t2, t5, t6, t7, t8, t9, t11, t12, t13]
  refine or1.Xapp2 gA7.sl hB.size (by simp only [List.length_nil, maxBytes]; omega) (by simp only [List.length_nil]; omega) fun r2 w28 or2 hg => ?_
  have hB := hg.below hB hB.size fun b hb => (or1.blk b hb).1
  clear hg or1 gA7
  have gB7 := gB.top.up hB
  simp (maxSteps := 1000000) (disch := omega) only [WS, List.getElem_cons_zero, List.getElem_cons_succ, Option.isNone_some, Option.isNone_none, List.getD_cons_zero, List.getD_cons_succ, I.at, atL, atO, atP, evp, evs, retV, ↓reduceIte, Nat.reduceEqDiff, reduceCtorEq, AS, t1, t2, t5, t6, t7, t8, t9, t11, t12, t13]
  refine or2.Xapp2 gB7.sl hB.size (by simp only [List.length_append, List.length_nil, maxBytes]; omega) (by simp only [List.length_append, List.length_nil]; omega) fun r3 w29 or3 hg => ?_
  have hB := hg.below hB hB.size fun b hb => (or2.blk b hb).1
  clear hg or2 gB7
  have gC7 := gC.top.up hB
  simp (maxSteps := 1000000) (disch := omega) only [WS, List.getElem_cons_zero, List.getElem_cons_succ, Option.isNone_some, Option.isNone_none, List.getD_cons_zero, List.getD_cons_succ, I.at, atL, atO, atP, evp, evs, retV, ↓reduceIte, Nat.reduceEqDiff, reduceCtorEq, AS, t1, t2, t5, t6, t7, t8, t9, t11, t12, t13]
  refine or3.Xapp2 gC7.sl hB.size (by simp only [List.length_append, List.length_nil, maxBytes]; omega) (by simp only [List.length_append, List.length_nil]; omega) fun r4 w30 or4 hg => ?_
  have hB := hg.below hB hB.size fun b hb => (or3.blk b hb).1
  clear hg or3 gC7
  have gD7 := gD.top.up hB
  simp (maxSteps := 1000000) (disch := omega) only [WS, List.getElem_cons_zero, List.getElem_cons_succ, Option.isNone_some, Option.isNone_none, List.getD_cons_zero, List.getD_cons_succ, I.at, atL, atO, atP, evp, evs, retV, ↓reduceIte, Nat.reduceEqDiff, reduceCtorEq, AS, t1, t2, t5, t6, t7, t8, t9, t11, t12, t13]
  refine or4.Xapp2 gD7.sl hB.size (by simp only [List.length_append, List.length_nil, maxBytes]; omega) (by simp only [List.length_append, List.length_nil]; omega) fun r5 w31 or5 hg => ?_
  have hB := hg.below hB hB.size fun b hb => (or4.blk b hb).1
  clear hg or4 gD7
  rw [← hEh] at or5
  have q31 := hB.size
  generalize hF : (fun u : World => RowKit.Below w.heap.size w u ∧ Seg w2.heap.size w3.heap.size u (Cell.v xF) V1' ∧ Seg w3.heap.size w4.heap.size u (Cell.v xG) V2' ∧ Rg w15.heap.size w16.heap.size u s6 hsT (p2w V1' V2')) = Fr
  have hF31 : Fr w31 := by rw [← hF]; exact ⟨B.trans (hB.mono B.size), oF.up hB, oG.up hB, gT.up hB⟩
  have hFrm : Frm Fr (fun b => w.heap.size ≤ b ∧ w4.heap.size ≤ b ∧ (b < w15.heap.size ∨ w16.heap.size ≤ b)) := by
    rw [← hF]
    exact ⟨fun u u' b hu hb hg => ⟨hu.1.grown hg hu.1.size fun c hc => by cases hc; exact hb.1, hu.2.1.grown hg (by omega), hu.2.2.1.grown hg (by omega), hu.2.2.2.grown hg hb.2.2⟩, fun u u' hu hB => ⟨hu.1.trans (hB.mono hu.1.size), hu.2.1.up hB, hu.2.2.1.up hB, hu.2.2.2.up hB⟩⟩
  have hFo : ∀ u, Fr u → RowKit.Below w.heap.size w u ∧ Seg w2.heap.size w3.heap.size u (Cell.v xF) V1' ∧ Seg w3.heap.size w4.heap.size u (Cell.v xG) V2' ∧ Rg w15.heap.size w16.heap.size u s6 hsT (p2w V1' V2') := fun u hu => by rw [← hF] at hu; exact hu
  clear hF
  obtain ⟨hap, hRof⟩ := L4'.rof B.size hF31 hB or5
  have hDb : ∀ i (hi : i < (E.map fun e => hd e.1).length) b, Fw.blk (Cell.v (E.map fun e => hd e.1)[i]) = some b → w.heap.size ≤ b ∧ w4.heap.size ≤ b ∧ (b < w15.heap.size ∨ w16.heap.size ≤ b) := fun j hj b hb => by
    have hj' : j < E.length := by simpa using hj
    rw [List.getElem_map, (L4'.ow j _ (List.getElem?_eq_getElem hj')).sl.hd.1] at hb
    have h1 := hEb E[j] (List.getElem_mem hj') b hb
    exact ⟨by omega, by omega, h1.2.1⟩
  have lEh : (E.map fun e => hd e.1).length = hsA.length + hsB.length + hsC.length + hsD.length := by rw [List.length_map, lE]
  have hEl2 : ∀ j, j < (E.map fun e => hd e.1).length → ((E.map fun e => e.2).getD j []).length ≤ 70368744175616 := fun j hj => by
    have hj' : j < E.length := by simpa using hj
    rw [List.getD_eq_getElem?_getD, List.getElem?_map, List.getElem?_eq_getElem hj']
    exact hEl E[j] (List.getElem_mem hj')
  clear or5 B hB oF oG gA gB gC gD gT
  simp (maxSteps := 1000000) (disch := omega) only [WS, List.getElem_cons_zero, List.getElem_cons_succ, Option.isNone_some, Option.isNone_none, List.getD_cons_zero, List.getD_cons_succ, I.at, atL, atO, atP, evp, evs, retV, ↓reduceIte, Nat.reduceEqDiff, reduceCtorEq, AS, t1, t2, t5, t6, t7, t8, t9, t11, t12, t13]
  refine X_call0 ((culletlaw04_apart16_spec w31 w.heap.size Fr _ r5 (E.map fun e => hd e.1) (E.map fun e => e.2) hap hFrm hDb (fun b hb => ⟨by omega, by omega, by omega⟩) hRof hEl2 (by rw [lEh]; omega) (by rw [lEh]; omega)).mono ?_)
  rintro _ w32 ⟨rfl, hF32⟩
  obtain ⟨B, oF, oG, gT⟩ := hFo _ hF32
  clear hF31 hFrm hFo hap hRof hDb L4' hEh hEb hEl hEl2 lE lEh hF32
  simp (maxSteps := 1000000) (disch := omega) only [WS, List.getElem_cons_zero, List.getElem_cons_succ, Option.isNone_some, Option.isNone_none, List.getD_cons_zero, List.getD_cons_succ, I.at, atL, atO, atP, evp, evs, retV, ↓reduceIte, Nat.reduceEqDiff, reduceCtorEq, AS, t1, t2, t5, t6, t7, t8, t9, t11, t12, t13]
  refine X_bsl (zs := [xF, xG]) (fill2hw xF xG) (by rfl) fun s9 w33 o9 hB => ?_
  have oF := oF.up hB
  have oG := oG.up hB
  have gT := gT.up hB
  have B := B.trans (hB.mono B.size)
  clear hB
  simp (maxSteps := 1000000) (disch := omega) only [WS, List.getElem_cons_zero, List.getElem_cons_succ, Option.isNone_some, Option.isNone_none, List.getD_cons_zero, List.getD_cons_succ, I.at, atL, atO, atP, evp, evs, retV, ↓reduceIte, Nat.reduceEqDiff, reduceCtorEq, AS, t1, t2, t5, t6, t7, t8, t9, t11, t12, t13]
  refine X_call0 ((culletlaw04_alike16_spec w33 s9 s6 [xF, xG] hsT _ (rl2w o9.sl oF.sl oG.sl (by omega) (by omega)) (rglw gT (fun j hj => by unfold p2w; split <;> omega) (by rw [lT]; simp)) lT.symm).mono ?_)
  rintro _ w34 ⟨rfl, hB⟩
  have B := B.trans (hB.mono B.size)
  clear hB
  simp (maxSteps := 1000000) (disch := omega) only [WS, List.getElem_cons_zero, List.getElem_cons_succ, Option.isNone_some, Option.isNone_none, List.getD_cons_zero, List.getD_cons_succ, I.at, atL, atO, atP, evp, evs, retV, ↓reduceIte, Nat.reduceEqDiff, reduceCtorEq, AS]
  exact B
end Go.Proofs.Ytcdagkcchfibjaa.Fw
