import Derived.Test.YtcdagkcchfibjaaProg
import Derived.Test.YtcdagkcchfibjaaFwTM
import Derived.Test.YtcdagkcchfibjaaSPMfM
import Derived.Test.YtcdagkcchfibjaaSPMeM
set_option linter.all false
set_option linter.unusedVariables false
set_option linter.unusedSimpArgs false
set_option maxRecDepth 100000
set_option maxHeartbeats 1000000
namespace Go.Proofs.Ytcdagkcchfibjaa.Fw
open Go Go.Fw Go.Proofs
attribute [local irreducible] stepI
def c_culletlaw04_keeps8 : C := .seq (.ops [⟨0, (some 2), none, .box 33 (.t 0), []⟩, ⟨1, (some 4), none, .mov (.c (.bool false)), []⟩]) (.seq (.ops [⟨0, (some 21), none, .call (.c (.func (.func 35) #[] #[])) [], []⟩, ⟨1, (some 5), none, .mov (.t 21), []⟩]) (.seq (.ops [⟨0, (some 23), none, .fad 2 (.t 2), []⟩, ⟨1, (some 24), none, .ld (.t 23), []⟩, ⟨2, (some 25), none, .call (.c (.func (.func 40) #[] #[])) [.t 24], []⟩, ⟨3, (some 26), none, .call (.c (.func (.func 66) #[] #[])) [.t 25], []⟩, ⟨4, (some 22), none, .mov (.t 26), []⟩, ⟨5, (some 27), none, .ext (.t 22) 0, []⟩, ⟨6, (some 28), none, .ext (.t 22) 1, []⟩, ⟨7, (some 6), none, .mov (.t 27), []⟩, ⟨8, (some 7), none, .mov (.t 28), []⟩]) (.seq (.ops [⟨0, (some 30), none, .fad 3 (.t 2), []⟩, ⟨1, (some 31), none, .ld (.t 30), []⟩, ⟨2, (some 32), none, .call (.c (.func (.func 40) #[] #[])) [.t 31], []⟩, ⟨3, (some 33), none, .call (.c (.func (.func 66) #[] #[])) [.t 32], []⟩, ⟨4, (some 29), none, .mov (.t 33), []⟩, ⟨5, (some 34), none, .ext (.t 29) 0, []⟩, ⟨6, (some 35), none, .ext (.t 29) 1, []⟩, ⟨7, (some 8), none, .mov (.t 34), []⟩, ⟨8, (some 9), none, .mov (.t 35), []⟩]) (.seq (.ops [⟨0, (some 36), none, .mov (.t 6), []⟩, ⟨1, (some 37), none, .mov (.t 8), []⟩, ⟨2, (some 38), none, .bsl 57 2 [.slice none 0 0] [(0, (1, .t 36)), (1, (1, .t 37))], []⟩, ⟨3, (some 39), none, .call (.c (.func (.func 67) #[] #[])) [.t 38], []⟩, ⟨4, (some 10), none, .mov (.t 39), []⟩]) (.seq (.ops [⟨0, (some 40), none, .mov (.t 5), []⟩, ⟨1, (some 41), none, .mov (.t 1), []⟩, ⟨2, (some 42), none, .mov (.t 7), []⟩, ⟨3, (some 43), none, .mov (.t 9), []⟩, ⟨4, (some 44), none, .fad 5 (.t 2), []⟩, ⟨5, (some 45), none, .ld (.t 44), []⟩, ⟨6, (some 46), none, .call (.c (.func (.func 71) #[] #[])) [.t 40, .t 41, .t 42, .t 43, .t 45], []⟩, ⟨7, (some 11), none, .mov (.t 46), []⟩]) (.seq (.ops [⟨0, (some 47), none, .mov (.t 11), []⟩, ⟨1, (some 48), none, .call (.c (.func (.func 67) #[] #[])) [.t 47], []⟩, ⟨2, (some 12), none, .mov (.t 48), []⟩]) (.seq (.ops [⟨0, (some 49), none, .mov (.t 5), []⟩, ⟨1, (some 50), none, .mov (.t 1), []⟩, ⟨2, (some 51), none, .mov (.t 7), []⟩, ⟨3, (some 52), none, .mov (.t 9), []⟩, ⟨4, (some 53), none, .fad 5 (.t 2), []⟩, ⟨5, (some 54), none, .ld (.t 53), []⟩, ⟨6, (some 55), none, .call (.c (.func (.func 71) #[] #[])) [.t 49, .t 50, .t 51, .t 52, .t 54], []⟩, ⟨7, (some 13), none, .mov (.t 55), []⟩]) (.seq (.seq (.ops [⟨0, (some 56), none, .mov (.t 13), []⟩, ⟨1, (some 57), none, .mov (.t 12), []⟩, ⟨2, (some 58), none, .call (.c (.func (.func 68) #[] #[])) [.t 56, .t 57], []⟩, ⟨3, (some 59), none, .un .not (.t 58), []⟩, ⟨4, (some 60), none, .mov (.t 59), []⟩, ⟨5, (some 61), (some (60, false)), .mov (.t 6), []⟩, ⟨6, (some 62), (some (60, false)), .mov (.t 8), []⟩, ⟨7, (some 63), (some (60, false)), .bsl 57 2 [.slice none 0 0] [(0, (1, .t 61)), (1, (1, .t 62))], []⟩, ⟨8, (some 64), (some (60, false)), .mov (.t 10), []⟩, ⟨9, (some 65), (some (60, false)), .call (.c (.func (.func 68) #[] #[])) [.t 63, .t 64], []⟩, ⟨10, (some 66), (some (60, false)), .un .not (.t 65), []⟩, ⟨11, (some 67), none, .pick (.t 60) (.c (.bool true)) (.t 66), []⟩]) (.ite (.t 67) (.seq (.ops [⟨0, (some 4), none, .mov (.c (.bool false)), []⟩]) .ret) .skip)) (.seq (.seq (.ops [⟨0, (some 14), none, .mov (.c (.int .i64 0)), []⟩]) (.block 0 (.loop (.seq (.seq (.ops [⟨0, (some 68), none, .mov (.t 14), []⟩, ⟨1, (some 69), none, .mov (.t 7), []⟩, ⟨2, (some 70), none, .len (.t 69), []⟩, ⟨3, (some 71), none, .bin .lss (.t 68) (.t 70), []⟩]) (.ite (.t 71) .skip (.exit 0))) (.seq (.block 1 (.ops [⟨0, (some 74), none, .mov (.t 7), []⟩, ⟨1, (some 75), none, .mov (.t 14), []⟩, ⟨2, (some 76), none, .mov (.t 7), []⟩, ⟨3, (some 77), none, .mov (.t 14), []⟩, ⟨4, (some 78), none, .ixs 1 (.t 76) (.t 77), []⟩, ⟨5, (some 79), none, .ld (.t 78), []⟩, ⟨6, (some 80), none, .bin .mul (.t 79) (.c (.int .u8 3)), []⟩, ⟨7, (some 81), none, .bin .add (.t 80) (.c (.int .u8 1)), []⟩, ⟨8, (some 82), none, .ixs 1 (.t 74) (.t 75), []⟩, ⟨9, none, none, .st (.t 82) (.t 81), []⟩])) (.ops [⟨0, (some 72), none, .mov (.t 14), []⟩, ⟨1, (some 73), none, .bin .add (.t 72) (.c (.int .i64 1)), []⟩, ⟨2, (some 14), none, .mov (.t 73), []⟩])))))) (.seq (.seq (.ops [⟨0, (some 15), none, .mov (.c (.int .i64 0)), []⟩]) (.block 2 (.loop (.seq (.seq (.ops [⟨0, (some 83), none, .mov (.t 15), []⟩, ⟨1, (some 84), none, .mov (.t 9), []⟩, ⟨2, (some 85), none, .len (.t 84), []⟩, ⟨3, (some 86), none, .bin .lss (.t 83) (.t 85), []⟩]) (.ite (.t 86) .skip (.exit 2))) (.seq (.block 3 (.ops [⟨0, (some 89), none, .mov (.t 9), []⟩, ⟨1, (some 90), none, .mov (.t 15), []⟩, ⟨2, (some 91), none, .mov (.t 9), []⟩, ⟨3, (some 92), none, .mov (.t 15), []⟩, ⟨4, (some 93), none, .ixs 1 (.t 91) (.t 92), []⟩, ⟨5, (some 94), none, .ld (.t 93), []⟩, ⟨6, (some 95), none, .bin .mul (.t 94) (.c (.int .u8 3)), []⟩, ⟨7, (some 96), none, .bin .add (.t 95) (.c (.int .u8 1)), []⟩, ⟨8, (some 97), none, .ixs 1 (.t 89) (.t 90), []⟩, ⟨9, none, none, .st (.t 97) (.t 96), []⟩])) (.ops [⟨0, (some 87), none, .mov (.t 15), []⟩, ⟨1, (some 88), none, .bin .add (.t 87) (.c (.int .i64 1)), []⟩, ⟨2, (some 15), none, .mov (.t 88), []⟩])))))) (.seq (.ops [⟨0, (some 98), none, .mov (.t 6), []⟩, ⟨1, (some 99), none, .mov (.t 8), []⟩, ⟨2, (some 100), none, .bsl 57 2 [.slice none 0 0] [(0, (1, .t 98)), (1, (1, .t 99))], []⟩, ⟨3, (some 101), none, .call (.c (.func (.func 67) #[] #[])) [.t 100], []⟩, ⟨4, (some 16), none, .mov (.t 101), []⟩]) (.seq (.seq (.ops [⟨0, (some 102), none, .mov (.t 11), []⟩, ⟨1, (some 103), none, .mov (.t 12), []⟩, ⟨2, (some 104), none, .call (.c (.func (.func 68) #[] #[])) [.t 102, .t 103], []⟩, ⟨3, (some 105), none, .un .not (.t 104), []⟩, ⟨4, (some 106), none, .mov (.t 105), []⟩, ⟨5, (some 107), (some (106, false)), .mov (.t 13), []⟩, ⟨6, (some 108), (some (106, false)), .mov (.t 12), []⟩, ⟨7, (some 109), (some (106, false)), .call (.c (.func (.func 68) #[] #[])) [.t 107, .t 108], []⟩, ⟨8, (some 110), (some (106, false)), .un .not (.t 109), []⟩, ⟨9, (some 111), none, .pick (.t 106) (.c (.bool true)) (.t 110), []⟩]) (.ite (.t 111) (.seq (.ops [⟨0, (some 4), none, .mov (.c (.bool false)), []⟩]) .ret) .skip)) (.seq (.ops [⟨0, (some 112), none, .mov (.t 5), []⟩, ⟨1, (some 113), none, .mov (.t 1), []⟩, ⟨2, (some 114), none, .mov (.t 7), []⟩, ⟨3, (some 115), none, .mov (.t 9), []⟩, ⟨4, (some 116), none, .fad 5 (.t 2), []⟩, ⟨5, (some 117), none, .ld (.t 116), []⟩, ⟨6, (some 118), none, .call (.c (.func (.func 71) #[] #[])) [.t 112, .t 113, .t 114, .t 115, .t 117], []⟩, ⟨7, (some 17), none, .mov (.t 118), []⟩]) (.seq (.ops [⟨0, (some 119), none, .mov (.t 7), []⟩, ⟨1, (some 120), none, .mov (.t 9), []⟩, ⟨2, (some 121), none, .bsl 57 2 [.slice none 0 0] [(0, (1, .t 119)), (1, (1, .t 120))], []⟩, ⟨3, (some 122), none, .call (.c (.func (.func 67) #[] #[])) [.t 121], []⟩, ⟨4, (some 18), none, .mov (.t 122), []⟩]) (.seq (.dops [⟨0, (some 123), none, .call (.c (.func (.func 35) #[] #[])) [], []⟩, ⟨1, (some 124), none, .mov (.t 1), []⟩, ⟨2, (some 125), none, .mov (.t 18), []⟩, ⟨3, (some 126), none, .ixs 1 (.t 125) (.c (.int .i64 0)), []⟩, ⟨4, (some 127), none, .ld (.t 126), [0]⟩, ⟨5, (some 128), none, .mov (.t 18), []⟩, ⟨6, (some 129), none, .ixs 1 (.t 128) (.c (.int .i64 1)), []⟩, ⟨7, (some 130), none, .ld (.t 129), [0]⟩, ⟨8, (some 131), none, .fad 5 (.t 2), []⟩, ⟨9, (some 132), none, .ld (.t 131), [0]⟩, ⟨10, (some 133), none, .call (.c (.func (.func 71) #[] #[])) [.t 123, .t 124, .t 127, .t 130, .t 132], []⟩, ⟨11, (some 19), none, .mov (.t 133), []⟩]) (.seq (.seq (.ops [⟨0, (some 134), none, .mov (.t 17), []⟩, ⟨1, (some 135), none, .mov (.t 19), []⟩, ⟨2, (some 136), none, .call (.c (.func (.func 68) #[] #[])) [.t 134, .t 135], []⟩, ⟨3, (some 137), none, .un .not (.t 136), []⟩, ⟨4, (some 138), none, .mov (.t 137), []⟩, ⟨5, (some 139), (some (138, false)), .mov (.t 11), []⟩, ⟨6, (some 140), (some (138, false)), .mov (.t 12), []⟩, ⟨7, (some 141), (some (138, false)), .call (.c (.func (.func 68) #[] #[])) [.t 139, .t 140], []⟩, ⟨8, (some 142), (some (138, false)), .un .not (.t 141), []⟩, ⟨9, (some 143), none, .pick (.t 138) (.c (.bool true)) (.t 142), []⟩, ⟨10, (some 144), none, .mov (.t 143), []⟩, ⟨11, (some 145), (some (144, false)), .mov (.t 13), []⟩, ⟨12, (some 146), (some (144, false)), .mov (.t 12), []⟩, ⟨13, (some 147), (some (144, false)), .call (.c (.func (.func 68) #[] #[])) [.t 145, .t 146], []⟩, ⟨14, (some 148), (some (144, false)), .un .not (.t 147), []⟩, ⟨15, (some 149), none, .pick (.t 144) (.c (.bool true)) (.t 148), []⟩]) (.ite (.t 149) (.seq (.ops [⟨0, (some 4), none, .mov (.c (.bool false)), []⟩]) .ret) .skip)) (.seq (.ops [⟨0, (some 150), none, .bsl 57 0 [.slice none 0 0] [], []⟩, ⟨1, (some 151), none, .mov (.t 11), []⟩, ⟨2, (some 152), none, .app 57 24 [.slice none 0 0] (.t 150) (.t 151), []⟩, ⟨3, (some 153), none, .mov (.t 13), []⟩, ⟨4, (some 154), none, .app 57 24 [.slice none 0 0] (.t 152) (.t 153), []⟩, ⟨5, (some 155), none, .mov (.t 17), []⟩, ⟨6, (some 156), none, .app 57 24 [.slice none 0 0] (.t 154) (.t 155), []⟩, ⟨7, (some 157), none, .mov (.t 19), []⟩, ⟨8, (some 158), none, .app 57 24 [.slice none 0 0] (.t 156) (.t 157), []⟩, ⟨9, (some 20), none, .mov (.t 158), []⟩]) (.seq (.ops [⟨0, (some 159), none, .mov (.t 20), []⟩, ⟨1, (some 160), none, .call (.c (.func (.func 72) #[] #[])) [.t 159], []⟩, ⟨2, (some 161), none, .mov (.t 160), []⟩, ⟨3, (some 162), (some (161, true)), .mov (.t 6), []⟩, ⟨4, (some 163), (some (161, true)), .mov (.t 8), []⟩, ⟨5, (some 164), (some (161, true)), .bsl 57 2 [.slice none 0 0] [(0, (1, .t 162)), (1, (1, .t 163))], []⟩, ⟨6, (some 165), (some (161, true)), .mov (.t 16), []⟩, ⟨7, (some 166), (some (161, true)), .call (.c (.func (.func 68) #[] #[])) [.t 164, .t 165], []⟩, ⟨8, (some 167), none, .pick (.t 161) (.t 166) (.c (.bool false)), []⟩, ⟨9, (some 4), none, .mov (.t 167), []⟩]) .ret))))))))))))))))))
attribute [irreducible] c_culletlaw04_keeps8
theorem run_culletlaw04_keeps8 {args : List Value} {w : World} {K : Value → World → Prop} (hn : args.length ≤ 168) (h : WP Try.prog c_culletlaw04_keeps8 (endQ [.t 4] K) (initT args) w) : CallV Try.prog 34 args w K :=
  call_of follows Try.func34 (by kernel_rfl) (by kernel_rfl) hn h
end Go.Proofs.Ytcdagkcchfibjaa.Fw
namespace Go.Proofs.Ytcdagkcchfibjaa.Fw
open Go Go.Fw
theorem fill2hb (h0 h1 : Hd) : fillL (repL [.slice none 0 0] 2) [(0, 1, Cell.v h0), (1, 1, Cell.v h1)] = some ([h0, h1].map Cell.v) := by kernel_rfl
def p2b (a b : List (El 8)) : Nat → List (El 8) := fun j => if j = 0 then a else b
theorem rl2b {w : World} {s : Value} {x y : Hd} {a b : List (El 8)} (hs : Sl w s [x, y]) (h1 : Sl w (Cell.v x) a) (h2 : Sl w (Cell.v y) b) (l1 : a.length ≤ 70368744175640) (l2 : b.length ≤ 70368744175640) : Rlb w s [x, y] (p2b a b) := by
  refine ⟨hs, fun j hj => ?_, fun j hj => ?_, by simp⟩
  · obtain rfl | rfl : j = 0 ∨ j = 1 := by simp at hj; omega
    · exact h1
    · exact h2
  · obtain rfl | rfl : j = 0 ∨ j = 1 := by simp at hj; omega
    · exact l1
    · exact l2
theorem rglb {lo hi : Nat} {w : World} {v : Value} {hs : List Hd} {R : Nat → List (El 8)} (h : Rg lo hi w v hs R) (hl : ∀ j, j < hs.length → (R j).length ≤ 70368744175640) (hn : hs.length ≤ 30) : Rlb w v hs R := ⟨h.top.sl, fun j hj => (h.row j hj).sl, hl, hn⟩
set_option maxHeartbeats 40000000 in
theorem culletlaw04_keeps8_spec (w : World) (k k' n : Int) (fl : Bool) (F G : Value) (LF LG : List (El 16)) (x : El 16) (hF : Sl w F LF) (hG : Sl w G LG) (lF : LF.length ≤ 70368744175616) (lG : LG.length ≤ 70368744175616) (hk : k = 1 ∨ k = 2 ∨ k = 4 ∨ k = 5 ∨ k = 6 ∨ k = 7 ∨ k = 8 ∨ k = 9 ∨ k = 10) :
    CallV Try.prog 34 [.agg #[.int .i64 k', .bool fl, F, G, .int .u16 (x.v.toNat : Int), .int .i64 n], .int .i64 k] w fun v w' => v = .bool true ∧ RowKit.Below w.heap.size w w' := by
  have dt : ∀ e : Int, decide (e = e) = true := fun e => decide_eq_true rfl
  have hcn : cnt04b k ≤ 3 ∧ 1 ≤ cnt04b k := by unfold cnt04b; split <;> (try split) <;> omega
  refine run_culletlaw04_keeps8 (by simp) ?_
  simp only [c_culletlaw04_keeps8, WS, List.getElem_cons_zero, List.getElem_cons_succ, Option.isNone_some, Option.isNone_none, List.getD_cons_zero, List.getD_cons_succ, I.at, atL, atO, atP, evp, evs, retV, ↓reduceIte, Nat.reduceEqDiff, reduceCtorEq]
  refine X_box fun b w1 hro hlb hB => ?_
  have hro : Row w1 b [.int .i64 k', .bool fl, F, G, .int .u16 (x.v.toNat : Int), .int .i64 n] := hro
  have B := hB
  have hF := hF.up hB
  have hG := hG.up hB
  clear hB hlb
  simp (maxSteps := 1000000) (disch := omega) only [WS, List.getElem_cons_zero, List.getElem_cons_succ, Option.isNone_some, Option.isNone_none, List.getD_cons_zero, List.getD_cons_succ, I.at, atL, atO, atP, evp, evs, retV, ↓reduceIte, Nat.reduceEqDiff, reduceCtorEq, AS]
  refine X_call0 ((polys_Over8_spec w1).mono ?_)
  rintro r w2 ⟨hr, hB, -⟩
  have hF := hF.up hB
  have hG := hG.up hB
  have hro := hro.up hB
  have B := B.trans (hB.mono B.size)
  clear hB
  obtain ⟨bR, mvR, ivR, rfl, -, -⟩ := id hr
  have B2 := B.size
  have hr2 := hr
  have hro2 := hro
  have C : RowKit.Below w2.heap.size w2 w2 := RowKit.Below.refl _ _
  generalize hL1 : LF.map lo8 = L1
  have lL1 : L1.length ≤ 70368744175616 := by rw [← hL1]; rw [List.length_map]; exact lF
  generalize hL2 : LG.map lo8 = L2
  have lL2 : L2.length ≤ 70368744175616 := by rw [← hL2]; rw [List.length_map]; exact lG
  simp (maxSteps := 1000000) (disch := omega) only [WS, List.getElem_cons_zero, List.getElem_cons_succ, Option.isNone_some, Option.isNone_none, List.getD_cons_zero, List.getD_cons_succ, I.at, atL, atO, atP, evp, evs, retV, ↓reduceIte, Nat.reduceEqDiff, reduceCtorEq, AS, hro.Xld (show 2 < _ by simp)]
  refine X_call0 ((culletlaw04_low_spec w2 F LF hF lF).mono ?_)
  rintro sl w2b ⟨ol, hB⟩
  rw [hL1] at ol
  have hF := ol.sl
  have q2 := hB.size
  have C := C.trans (hB.mono C.size)
  have hr := hr.up hB
  have hro := hro.up hB
  have hG := hG.up hB
  have B := B.trans (hB.mono B.size)
  clear hB
  simp (maxSteps := 1000000) (disch := omega) only [WS, List.getElem_cons_zero, List.getElem_cons_succ, Option.isNone_some, Option.isNone_none, List.getD_cons_zero, List.getD_cons_succ, I.at, atL, atO, atP, evp, evs, retV, ↓reduceIte, Nat.reduceEqDiff, reduceCtorEq, AS]
  refine X_call0 ((culletlaw04_roomy8_spec _ _ L1 hF lL1).mono ?_)
  rintro _ w3 ⟨hB, sF, rfl, oF⟩
  have q3 := hB.size
  have C := C.trans (hB.mono C.size)
  have hr := hr.up hB
  have hro := hro.up hB
  have hG := hG.up hB
  have B := B.trans (hB.mono B.size)
  clear hB
  clear hF
  simp (maxSteps := 1000000) (disch := omega) only [WS, List.getElem_cons_zero, List.getElem_cons_succ, Option.isNone_some, Option.isNone_none, List.getD_cons_zero, List.getD_cons_succ, I.at, atL, atO, atP, evp, evs, retV, ↓reduceIte, Nat.reduceEqDiff, reduceCtorEq, AS, hro.Xld (show 3 < _ by simp)]
  refine X_call0 ((culletlaw04_low_spec w3 G LG hG lG).mono ?_)
  rintro sl2 w3b ⟨ol2, hB⟩
  rw [hL2] at ol2
  have hG := ol2.sl
  have q3b := hB.size
  have C := C.trans (hB.mono C.size)
  have hr := hr.up hB
  have hro := hro.up hB
  have oF := oF.up hB
  have B := B.trans (hB.mono B.size)
  clear hB
  simp (maxSteps := 1000000) (disch := omega) only [WS, List.getElem_cons_zero, List.getElem_cons_succ, Option.isNone_some, Option.isNone_none, List.getD_cons_zero, List.getD_cons_succ, I.at, atL, atO, atP, evp, evs, retV, ↓reduceIte, Nat.reduceEqDiff, reduceCtorEq, AS]
  have SG : w3.heap.size ≤ w3b.heap.size := by omega
  refine X_call0 ((culletlaw04_roomy8_spec _ _ L2 hG lL2).mono ?_)
  rintro _ w4 ⟨hB, sG, rfl, oG⟩
  have q4 := hB.size
  have C := C.trans (hB.mono C.size)
  have hr := hr.up hB
  have hro := hro.up hB
  have oF := oF.up hB
  have B := B.trans (hB.mono B.size)
  clear hB
  clear hG
  have lV1 : (L1 ++ mkb).length = L1.length + 8 := by rw [List.length_append, mkb_len]
  have tV1 : (L1 ++ mkb).take L1.length = L1 := by simp
  have lV2 : (L2 ++ mkb).length = L2.length + 8 := by rw [List.length_append, mkb_len]
  have tV2 : (L2 ++ mkb).take L2.length = L2 := by simp
  obtain ⟨xF, rfl⟩ : ∃ x : Hd, sF = Cell.v x := ⟨hd sF, oF.sl.hd.1.symm⟩
  obtain ⟨xG, rfl⟩ : ∃ x : Hd, sG = Cell.v x := ⟨hd sG, oG.sl.hd.1.symm⟩
  generalize L1 ++ mkb = V1 at oF lV1 tV1
  generalize L2 ++ mkb = V2 at oG lV2 tV2
  have hle1 : ∀ V : List (El 8), V.length = L1.length + 8 → L1.length ≤ V.length := fun V h => by omega
  have hle2 : ∀ V : List (El 8), V.length = L2.length + 8 → L2.length ≤ V.length := fun V h => by omega
  have tkl1 : ∀ V : List (El 8), V.length = L1.length + 8 → (V.take L1.length).length = L1.length := fun V h => by rw [List.length_take]; omega
  have tkl2 : ∀ V : List (El 8), V.length = L2.length + 8 → (V.take L2.length).length = L2.length := fun V h => by rw [List.length_take]; omega
  have osub1 : ∀ {lo hi : Nat} (u : World) (V : List (El 8)), V.length = L1.length + 8 → Seg lo hi u (Cell.v xF) V → Sl u (Fw.sub (Cell.v xF) 0 L1.length) (V.take L1.length) := fun u V h1 h2 => (h2.own.sub0 (hle1 V h1)).sl
  have osub2 : ∀ {lo hi : Nat} (u : World) (V : List (El 8)), V.length = L2.length + 8 → Seg lo hi u (Cell.v xG) V → Sl u (Fw.sub (Cell.v xG) 0 L2.length) (V.take L2.length) := fun u V h1 h2 => (h2.own.sub0 (hle2 V h1)).sl
  simp (maxSteps := 1000000) (disch := omega) only [WS, List.getElem_cons_zero, List.getElem_cons_succ, Option.isNone_some, Option.isNone_none, List.getD_cons_zero, List.getD_cons_succ, I.at, atL, atO, atP, evp, evs, retV, ↓reduceIte, Nat.reduceEqDiff, reduceCtorEq, AS]
  refine X_bsl (zs := [xF, xG]) (fill2hb xF xG) (by rfl) fun s1 w5 o1 hB => ?_
  have C := C.trans (hB.mono C.size)
  have q5 := hB.size
  have oF := oF.up hB
  have oG := oG.up hB
  have hr := hr.up hB
  have hro := hro.up hB
  have B := B.trans (hB.mono B.size)
  clear hB
  simp (maxSteps := 1000000) (disch := omega) only [WS, List.getElem_cons_zero, List.getElem_cons_succ, Option.isNone_some, Option.isNone_none, List.getD_cons_zero, List.getD_cons_succ, I.at, atL, atO, atP, evp, evs, retV, ↓reduceIte, Nat.reduceEqDiff, reduceCtorEq, AS]
  refine X_call0 ((culletlaw04_copies8_spec w5 s1 [xF, xG] _ (rl2b o1.sl oF.sl oG.sl (by omega) (by omega))).mono ?_)
  rintro s2 w6 ⟨hB, hs2, lh2, g2⟩
  have C := C.trans (hB.mono C.size)
  have q6 := hB.size
  have oF := oF.up hB
  have oG := oG.up hB
  have hr := hr.up hB
  have hro := hro.up hB
  have B := B.trans (hB.mono B.size)
  clear hB
  clear o1
  have f1 := osub1 w6 V1 lV1 oF
  have f2 := osub2 w6 V2 lV2 oG
  rw [tV1] at f1
  rw [tV2] at f2
  simp (maxSteps := 1000000) (disch := omega) only [WS, List.getElem_cons_zero, List.getElem_cons_succ, Option.isNone_some, Option.isNone_none, List.getD_cons_zero, List.getD_cons_succ, I.at, atL, atO, atP, evp, evs, retV, ↓reduceIte, Nat.reduceEqDiff, reduceCtorEq, AS, hro.Xld (show 5 < _ by simp)]
  refine X_call0 ((culletlaw04_calls8_spec w6 _ _ _ L1 L2 k n hr f1 f2 lL1 lL2 hk).mono ?_)
  rintro sa w7 ⟨hB, hsA, RA, lA, gA, anA, lRA⟩
  have C := C.trans (hB.mono C.size)
  have q7 := hB.size
  have oF := oF.up hB
  have oG := oG.up hB
  have hr := hr.up hB
  have hro := hro.up hB
  have g2 := g2.up hB
  have f1 := f1.up hB
  have f2 := f2.up hB
  have B := B.trans (hB.mono B.size)
  clear hB
  have lRA' : ∀ j, j < hsA.length → (RA j).length ≤ 70368744175640 := fun j hj => by have := lRA j (by omega); omega
  simp (maxSteps := 1000000) (disch := omega) only [WS, List.getElem_cons_zero, List.getElem_cons_succ, Option.isNone_some, Option.isNone_none, List.getD_cons_zero, List.getD_cons_succ, I.at, atL, atO, atP, evp, evs, retV, ↓reduceIte, Nat.reduceEqDiff, reduceCtorEq, AS]
  refine X_call0 ((culletlaw04_copies8_spec w7 sa hsA RA (rglb gA lRA' (by omega))).mono ?_)
  rintro s3 w8 ⟨hB, hsW, lW, gW⟩
  have C := C.trans (hB.mono C.size)
  have q8 := hB.size
  have oF := oF.up hB
  have oG := oG.up hB
  have hr := hr.up hB
  have hro := hro.up hB
  have g2 := g2.up hB
  have f1 := f1.up hB
  have f2 := f2.up hB
  have gA := gA.up hB
  have B := B.trans (hB.mono B.size)
  clear hB
  simp (maxSteps := 1000000) (disch := omega) only [WS, List.getElem_cons_zero, List.getElem_cons_succ, Option.isNone_some, Option.isNone_none, List.getD_cons_zero, List.getD_cons_succ, I.at, atL, atO, atP, evp, evs, retV, ↓reduceIte, Nat.reduceEqDiff, reduceCtorEq, AS, hro.Xld (show 5 < _ by simp)]
  refine X_call0 ((culletlaw04_calls8_spec w8 _ _ _ L1 L2 k n hr f1 f2 lL1 lL2 hk).mono ?_)
  rintro sb w9 ⟨hB, hsB, RB, lB, gB, anB, -⟩
  have C := C.trans (hB.mono C.size)
  have q9 := hB.size
  have oF := oF.up hB
  have oG := oG.up hB
  have hr := hr.up hB
  have hro := hro.up hB
  have g2 := g2.up hB
  have gA := gA.up hB
  have gW := gW.up hB
  have B := B.trans (hB.mono B.size)
  clear hB
  have gB := gB.congr (R' := RA) fun j hj => anA.uniq anB j (by omega)
  clear anA anB f1 f2
  have lRW : ∀ j, j < hsW.length → (RA j).length ≤ 70368744175640 := fun j hj => lRA' j (by omega)
  have lRB : ∀ j, j < hsB.length → (RA j).length ≤ 70368744175640 := fun j hj => lRA' j (by omega)
  simp (maxSteps := 1000000) (disch := omega) only [WS, List.getElem_cons_zero, List.getElem_cons_succ, Option.isNone_some, Option.isNone_none, List.getD_cons_zero, List.getD_cons_succ, I.at, atL, atO, atP, evp, evs, retV, ↓reduceIte, Nat.reduceEqDiff, reduceCtorEq, AS]
  refine X_call0 ((culletlaw04_alike8_spec w9 sb s3 hsB hsW RA (rglb gB lRB (by omega)) (rglb gW lRW (by omega)) (by omega)).mono ?_)
  rintro _ w10 ⟨rfl, hB⟩
  have C := C.trans (hB.mono C.size)
  have q10 := hB.size
  have oF := oF.up hB
  have oG := oG.up hB
  have hr := hr.up hB
  have hro := hro.up hB
  have g2 := g2.up hB
  have gA := gA.up hB
  have gW := gW.up hB
  have gB := gB.up hB
  have B := B.trans (hB.mono B.size)
  clear hB
  simp (maxSteps := 1000000) (disch := omega) only [WS, List.getElem_cons_zero, List.getElem_cons_succ, Option.isNone_some, Option.isNone_none, List.getD_cons_zero, List.getD_cons_succ, I.at, atL, atO, atP, evp, evs, retV, ↓reduceIte, Nat.reduceEqDiff, reduceCtorEq, AS]
  refine X_bsl (zs := [xF, xG]) (fill2hb xF xG) (by rfl) fun s4 w11 o4 hB => ?_
  have C := C.trans (hB.mono C.size)
  have q11 := hB.size
  have oF := oF.up hB
  have oG := oG.up hB
  have hr := hr.up hB
  have hro := hro.up hB
  have g2 := g2.up hB
  have gA := gA.up hB
  have gW := gW.up hB
  have gB := gB.up hB
  have B := B.trans (hB.mono B.size)
  clear hB
  simp (maxSteps := 1000000) (disch := omega) only [WS, List.getElem_cons_zero, List.getElem_cons_succ, Option.isNone_some, Option.isNone_none, List.getD_cons_zero, List.getD_cons_succ, I.at, atL, atO, atP, evp, evs, retV, ↓reduceIte, Nat.reduceEqDiff, reduceCtorEq, AS]
  refine X_call0 ((culletlaw04_alike8_spec w11 s4 s2 [xF, xG] hs2 _ (rl2b o4.sl oF.sl oG.sl (by omega) (by omega)) (rglb g2 (fun j hj => by unfold p2b; split <;> omega) (by rw [lh2]; simp)) lh2.symm).mono ?_)
  rintro _ w12 ⟨rfl, hB⟩
  have C := C.trans (hB.mono C.size)
  have q12 := hB.size
  have oF := oF.up hB
  have oG := oG.up hB
  have gA := gA.up hB
  have gW := gW.up hB
  have gB := gB.up hB
  have B := B.trans (hB.mono B.size)
  clear hB
  clear hr hro g2 o4
  simp (maxSteps := 1000000) (disch := omega) only [WS, List.getElem_cons_zero, List.getElem_cons_succ, Option.isNone_some, Option.isNone_none, List.getD_cons_zero, List.getD_cons_succ, I.at, atL, atO, atP, evp, evs, retV, ↓reduceIte, Nat.reduceEqDiff, reduceCtorEq, AS]
  -- both lists are turned
  have B12 := B
  have C12 := C
  refine loop_of (fun t u => t 2 = .pointer (some ⟨b, 0, none⟩) ∧ t 1 = .int .i64 k ∧ t 5 = .pointer (some ⟨bR, 0, none⟩) ∧ t 6 = Cell.v xF ∧ t 7 = Fw.sub (Cell.v xF) 0 L1.length ∧ t 8 = Cell.v xG ∧ t 9 = Fw.sub (Cell.v xG) 0 L2.length ∧ t 11 = sa ∧ t 12 = s3 ∧ t 13 = sb ∧ RowKit.Below w.heap.size w u ∧ RowKit.Below w2.heap.size w2 u ∧ Out w2.heap.size w4.heap.size w12 u ∧ ∃ (i : Nat) (V : List (El 8)), t 14 = .int .i64 (i : Int) ∧ i ≤ L1.length ∧ Seg w2b.heap.size w3.heap.size u (Cell.v xF) V ∧ V.length = L1.length + 8 ∧ Seg w3b.heap.size w4.heap.size u (Cell.v xG) V2)
    (fun t _ => L1.length - (toI (t 14)).toNat) ⟨by simp only [WS, List.getElem_cons_zero, List.getElem_cons_succ, Option.isNone_some, Option.isNone_none, List.getD_cons_zero, List.getD_cons_succ, I.at, atL, atO, atP, evp, evs, retV, ↓reduceIte, Nat.reduceEqDiff, reduceCtorEq], by simp only [WS, List.getElem_cons_zero, List.getElem_cons_succ, Option.isNone_some, Option.isNone_none, List.getD_cons_zero, List.getD_cons_succ, I.at, atL, atO, atP, evp, evs, retV, ↓reduceIte, Nat.reduceEqDiff, reduceCtorEq], by simp only [WS, List.getElem_cons_zero, List.getElem_cons_succ, Option.isNone_some, Option.isNone_none, List.getD_cons_zero, List.getD_cons_succ, I.at, atL, atO, atP, evp, evs, retV, ↓reduceIte, Nat.reduceEqDiff, reduceCtorEq], by simp only [WS, List.getElem_cons_zero, List.getElem_cons_succ, Option.isNone_some, Option.isNone_none, List.getD_cons_zero, List.getD_cons_succ, I.at, atL, atO, atP, evp, evs, retV, ↓reduceIte, Nat.reduceEqDiff, reduceCtorEq], by simp only [WS, List.getElem_cons_zero, List.getElem_cons_succ, Option.isNone_some, Option.isNone_none, List.getD_cons_zero, List.getD_cons_succ, I.at, atL, atO, atP, evp, evs, retV, ↓reduceIte, Nat.reduceEqDiff, reduceCtorEq], by simp only [WS, List.getElem_cons_zero, List.getElem_cons_succ, Option.isNone_some, Option.isNone_none, List.getD_cons_zero, List.getD_cons_succ, I.at, atL, atO, atP, evp, evs, retV, ↓reduceIte, Nat.reduceEqDiff, reduceCtorEq], by simp only [WS, List.getElem_cons_zero, List.getElem_cons_succ, Option.isNone_some, Option.isNone_none, List.getD_cons_zero, List.getD_cons_succ, I.at, atL, atO, atP, evp, evs, retV, ↓reduceIte, Nat.reduceEqDiff, reduceCtorEq], by simp only [WS, List.getElem_cons_zero, List.getElem_cons_succ, Option.isNone_some, Option.isNone_none, List.getD_cons_zero, List.getD_cons_succ, I.at, atL, atO, atP, evp, evs, retV, ↓reduceIte, Nat.reduceEqDiff, reduceCtorEq], by simp only [WS, List.getElem_cons_zero, List.getElem_cons_succ, Option.isNone_some, Option.isNone_none, List.getD_cons_zero, List.getD_cons_succ, I.at, atL, atO, atP, evp, evs, retV, ↓reduceIte, Nat.reduceEqDiff, reduceCtorEq], by simp only [WS, List.getElem_cons_zero, List.getElem_cons_succ, Option.isNone_some, Option.isNone_none, List.getD_cons_zero, List.getD_cons_succ, I.at, atL, atO, atP, evp, evs, retV, ↓reduceIte, Nat.reduceEqDiff, reduceCtorEq], B, C, Out.refl _ _ _, 0, V1, rfl, by omega, oF, lV1, oG⟩ ?_
  clear B C oF lV1 tV1 tV2 oG
  rintro t w13 ⟨t2, t1, t5, t6, t7, t8, t9, t11, t12, t13, B, C, hO, i, V1', t14, hi, oF, lV1, oG⟩
  by_cases hil : i < L1.length
  · have iV : i < V1'.length := by omega
    have hsub := osub1 _ V1' lV1 oF
    have hel : elP (Fw.sub (Cell.v xF) 0 L1.length) i = elP (Cell.v xF) i := by rw [elP_sub oF.sl (show 0 < L1.length by omega) (hle1 V1' lV1), Nat.zero_add]
    have hix := hsub.Xix (k := .i64) (i := i) (by rw [tkl1 V1' lV1]; exact hil) Try.prog
    rw [hel] at hix
    obtain ⟨y, hy⟩ := u8_elm (IntKind.u8.wrap ((V1'[i].v.toNat : Int) * 3) + 1)
    simp (maxSteps := 1000000) (disch := omega) only [WS, List.getElem_cons_zero, List.getElem_cons_succ, Option.isNone_some, Option.isNone_none, List.getD_cons_zero, List.getD_cons_succ, I.at, atL, atO, atP, evp, evs, retV, ↓reduceIte, Nat.reduceEqDiff, reduceCtorEq, AS, t1, t2, t5, t6, t7, t8, t9, t11, t12, t13, t14, hsub.Xlen, tkl1 V1' lV1, hix, oF.sl.Xld iV, cell_e8, hy]
    refine oF.Xst iV y fun w23 c oF2 hg hc1 hc2 => ?_
    simp (maxSteps := 1000000) (disch := omega) only [WS, List.getElem_cons_zero, List.getElem_cons_succ, Option.isNone_some, Option.isNone_none, List.getD_cons_zero, List.getD_cons_succ, I.at, atL, atO, atP, evp, evs, retV, ↓reduceIte, Nat.reduceEqDiff, reduceCtorEq, AS, t1, t2, t5, t6, t7, t8, t9, t11, t12, t13, t14]
    exact ⟨⟨B.grown hg B.size (fun b hb => by cases hb; omega), C.grown hg C.size (fun b hb => by cases hb; omega), hO.grown hg (by omega) (by omega), i + 1, _, rfl, by omega, oF2, by rw [List.length_set]; exact lV1, oG.grown hg (by omega)⟩, by omega⟩
  have hiL : i = L1.length := by omega
  rw [hiL] at t14
  have hsub := osub1 _ V1' lV1 oF
  simp (maxSteps := 1000000) (disch := omega) only [WS, List.getElem_cons_zero, List.getElem_cons_succ, Option.isNone_some, Option.isNone_none, List.getD_cons_zero, List.getD_cons_succ, I.at, atL, atO, atP, evp, evs, retV, ↓reduceIte, Nat.reduceEqDiff, reduceCtorEq, AS, t1, t2, t5, t6, t7, t8, t9, t11, t12, t13, t14, hsub.Xlen, tkl1 V1' lV1]
  refine loop_of (fun t u => t 2 = .pointer (some ⟨b, 0, none⟩) ∧ t 1 = .int .i64 k ∧ t 5 = .pointer (some ⟨bR, 0, none⟩) ∧ t 6 = Cell.v xF ∧ t 7 = Fw.sub (Cell.v xF) 0 L1.length ∧ t 8 = Cell.v xG ∧ t 9 = Fw.sub (Cell.v xG) 0 L2.length ∧ t 11 = sa ∧ t 12 = s3 ∧ t 13 = sb ∧ RowKit.Below w.heap.size w u ∧ RowKit.Below w2.heap.size w2 u ∧ Out w2.heap.size w4.heap.size w12 u ∧ ∃ (i : Nat) (V : List (El 8)), t 15 = .int .i64 (i : Int) ∧ i ≤ L2.length ∧ Seg w3b.heap.size w4.heap.size u (Cell.v xG) V ∧ V.length = L2.length + 8 ∧ Seg w2b.heap.size w3.heap.size u (Cell.v xF) V1')
    (fun t _ => L2.length - (toI (t 15)).toNat) ⟨by simp only [WS, List.getElem_cons_zero, List.getElem_cons_succ, Option.isNone_some, Option.isNone_none, List.getD_cons_zero, List.getD_cons_succ, I.at, atL, atO, atP, evp, evs, retV, ↓reduceIte, Nat.reduceEqDiff, reduceCtorEq]; exact t2, by simp only [WS, List.getElem_cons_zero, List.getElem_cons_succ, Option.isNone_some, Option.isNone_none, List.getD_cons_zero, List.getD_cons_succ, I.at, atL, atO, atP, evp, evs, retV, ↓reduceIte, Nat.reduceEqDiff, reduceCtorEq]; exact t1, by simp only [WS, List.getElem_cons_zero, List.getElem_cons_succ, Option.isNone_some, Option.isNone_none, List.getD_cons_zero, List.getD_cons_succ, I.at, atL, atO, atP, evp, evs, retV, ↓reduceIte, Nat.reduceEqDiff, reduceCtorEq]; exact t5, by simp only [WS, List.getElem_cons_zero, List.getElem_cons_succ, Option.isNone_some, Option.isNone_none, List.getD_cons_zero, List.getD_cons_succ, I.at, atL, atO, atP, evp, evs, retV, ↓reduceIte, Nat.reduceEqDiff, reduceCtorEq]; exact t6, by simp only [WS, List.getElem_cons_zero, List.getElem_cons_succ, Option.isNone_some, Option.isNone_none, List.getD_cons_zero, List.getD_cons_succ, I.at, atL, atO, atP, evp, evs, retV, ↓reduceIte, Nat.reduceEqDiff, reduceCtorEq]; exact t7, by simp only [WS, List.getElem_cons_zero, List.getElem_cons_succ, Option.isNone_some, Option.isNone_none, List.getD_cons_zero, List.getD_cons_succ, I.at, atL, atO, atP, evp, evs, retV, ↓reduceIte, Nat.reduceEqDiff, reduceCtorEq]; exact t8, by simp only [WS, List.getElem_cons_zero, List.getElem_cons_succ, Option.isNone_some, Option.isNone_none, List.getD_cons_zero, List.getD_cons_succ, I.at, atL, atO, atP, evp, evs, retV, ↓reduceIte, Nat.reduceEqDiff, reduceCtorEq]; exact t9, by simp only [WS, List.getElem_cons_zero, List.getElem_cons_succ, Option.isNone_some, Option.isNone_none, List.getD_cons_zero, List.getD_cons_succ, I.at, atL, atO, atP, evp, evs, retV, ↓reduceIte, Nat.reduceEqDiff, reduceCtorEq]; exact t11, by simp only [WS, List.getElem_cons_zero, List.getElem_cons_succ, Option.isNone_some, Option.isNone_none, List.getD_cons_zero, List.getD_cons_succ, I.at, atL, atO, atP, evp, evs, retV, ↓reduceIte, Nat.reduceEqDiff, reduceCtorEq]; exact t12, by simp only [WS, List.getElem_cons_zero, List.getElem_cons_succ, Option.isNone_some, Option.isNone_none, List.getD_cons_zero, List.getD_cons_succ, I.at, atL, atO, atP, evp, evs, retV, ↓reduceIte, Nat.reduceEqDiff, reduceCtorEq]; exact t13, B, C, hO, 0, V2, rfl, by omega, oG, lV2, oF⟩ ?_
  clear B C hO oF oG lV2 hsub t2 t1 t5 t6 t7 t8 t9 t11 t12 t13 t14
  rintro t w14 ⟨t2, t1, t5, t6, t7, t8, t9, t11, t12, t13, B, C, hO, i2, V2', t15, hi2, oG, lV2, oF⟩
  by_cases hil : i2 < L2.length
  · have iV : i2 < V2'.length := by omega
    have hsub := osub2 _ V2' lV2 oG
    have hel : elP (Fw.sub (Cell.v xG) 0 L2.length) i2 = elP (Cell.v xG) i2 := by rw [elP_sub oG.sl (show 0 < L2.length by omega) (hle2 V2' lV2), Nat.zero_add]
    have hix := hsub.Xix (k := .i64) (i := i2) (by rw [tkl2 V2' lV2]; exact hil) Try.prog
    rw [hel] at hix
    obtain ⟨y, hy⟩ := u8_elm (IntKind.u8.wrap ((V2'[i2].v.toNat : Int) * 3) + 1)
    simp (maxSteps := 1000000) (disch := omega) only [WS, List.getElem_cons_zero, List.getElem_cons_succ, Option.isNone_some, Option.isNone_none, List.getD_cons_zero, List.getD_cons_succ, I.at, atL, atO, atP, evp, evs, retV, ↓reduceIte, Nat.reduceEqDiff, reduceCtorEq, AS, t1, t2, t5, t6, t7, t8, t9, t11, t12, t13, t15, hsub.Xlen, tkl2 V2' lV2, hix, oG.sl.Xld iV, cell_e8, hy]
    refine oG.Xst iV y fun w23 c oG2 hg hc1 hc2 => ?_
    simp (maxSteps := 1000000) (disch := omega) only [WS, List.getElem_cons_zero, List.getElem_cons_succ, Option.isNone_some, Option.isNone_none, List.getD_cons_zero, List.getD_cons_succ, I.at, atL, atO, atP, evp, evs, retV, ↓reduceIte, Nat.reduceEqDiff, reduceCtorEq, AS, t1, t2, t5, t6, t7, t8, t9, t11, t12, t13, t15]
    exact ⟨⟨B.grown hg B.size (fun b hb => by cases hb; omega), C.grown hg C.size (fun b hb => by cases hb; omega), hO.grown hg (by omega) (by omega), i2 + 1, _, rfl, by omega, oG2, by rw [List.length_set]; exact lV2, oF.grown hg (by omega)⟩, by omega⟩
  have hiL2 : i2 = L2.length := by omega
  rw [hiL2] at t15
  have hsub := osub2 _ V2' lV2 oG
  have gA := gA.out hO (Or.inr (by omega))
  have gW := gW.out hO (Or.inr (by omega))
  have gB := gB.out hO (Or.inr (by omega))
  have q14 := hO.sz
  have hr := hr2.up C
  have hro := hro2.up C
  clear hO
  simp (maxSteps := 1000000) (disch := omega) only [WS, List.getElem_cons_zero, List.getElem_cons_succ, Option.isNone_some, Option.isNone_none, List.getD_cons_zero, List.getD_cons_succ, I.at, atL, atO, atP, evp, evs, retV, ↓reduceIte, Nat.reduceEqDiff, reduceCtorEq, AS, t1, t2, t5, t6, t7, t8, t9, t11, t12, t13, t15, hsub.Xlen, tkl2 V2' lV2]
  refine X_bsl (zs := [xF, xG]) (fill2hb xF xG) (by rfl) fun s5 w15 o5 hB => ?_
  have C := C.trans (hB.mono C.size)
  have q15 := hB.size
  have oF := oF.up hB
  have oG := oG.up hB
  have hr := hr.up hB
  have hro := hro.up hB
  have gA := gA.up hB
  have gW := gW.up hB
  have gB := gB.up hB
  have B := B.trans (hB.mono B.size)
  clear hB
  simp (maxSteps := 1000000) (disch := omega) only [WS, List.getElem_cons_zero, List.getElem_cons_succ, Option.isNone_some, Option.isNone_none, List.getD_cons_zero, List.getD_cons_succ, I.at, atL, atO, atP, evp, evs, retV, ↓reduceIte, Nat.reduceEqDiff, reduceCtorEq, AS, t1, t2, t5, t6, t7, t8, t9, t11, t12, t13]
  refine X_call0 ((culletlaw04_copies8_spec w15 s5 [xF, xG] _ (rl2b o5.sl oF.sl oG.sl (by omega) (by omega))).mono ?_)
  rintro s6 w16 ⟨hB, hsT, lT, gT⟩
  have C := C.trans (hB.mono C.size)
  have q16 := hB.size
  have oF := oF.up hB
  have oG := oG.up hB
  have hr := hr.up hB
  have hro := hro.up hB
  have gA := gA.up hB
  have gW := gW.up hB
  have gB := gB.up hB
  have B := B.trans (hB.mono B.size)
  clear hB
  clear o5
  simp (maxSteps := 1000000) (disch := omega) only [WS, List.getElem_cons_zero, List.getElem_cons_succ, Option.isNone_some, Option.isNone_none, List.getD_cons_zero, List.getD_cons_succ, I.at, atL, atO, atP, evp, evs, retV, ↓reduceIte, Nat.reduceEqDiff, reduceCtorEq, AS, t1, t2, t5, t6, t7, t8, t9, t11, t12, t13]
  refine X_call0 ((culletlaw04_alike8_spec w16 sa s3 hsA hsW RA (rglb gA lRA' (by omega)) (rglb gW lRW (by omega)) (by omega)).mono ?_)
  rintro _ w17 ⟨rfl, hB⟩
  have C := C.trans (hB.mono C.size)
  have q17 := hB.size
  have oF := oF.up hB
  have oG := oG.up hB
  have hr := hr.up hB
  have hro := hro.up hB
  have gA := gA.up hB
  have gW := gW.up hB
  have gB := gB.up hB
  have gT := gT.up hB
  have B := B.trans (hB.mono B.size)
  clear hB
  simp (maxSteps := 1000000) (disch := omega) only [WS, List.getElem_cons_zero, List.getElem_cons_succ, Option.isNone_some, Option.isNone_none, List.getD_cons_zero, List.getD_cons_succ, I.at, atL, atO, atP, evp, evs, retV, ↓reduceIte, Nat.reduceEqDiff, reduceCtorEq, AS, t1, t2, t5, t6, t7, t8, t9, t11, t12, t13]
  refine X_call0 ((culletlaw04_alike8_spec w17 sb s3 hsB hsW RA (rglb gB lRB (by omega)) (rglb gW lRW (by omega)) (by omega)).mono ?_)
  rintro _ w18 ⟨rfl, hB⟩
  have C := C.trans (hB.mono C.size)
  have q18 := hB.size
  have oF := oF.up hB
  have oG := oG.up hB
  have hr := hr.up hB
  have hro := hro.up hB
  have gA := gA.up hB
  have gW := gW.up hB
  have gB := gB.up hB
  have gT := gT.up hB
  have B := B.trans (hB.mono B.size)
  clear hB
  have f1 := osub1 w18 V1' lV1 oF
  have f2 := osub2 w18 V2' lV2 oG
  have m1 := tkl1 V1' lV1
  have m2 := tkl2 V2' lV2
  generalize V1'.take L1.length = D1 at f1 m1
  generalize V2'.take L2.length = D2 at f2 m2
  simp (maxSteps := 1000000) (disch := omega) only [WS, List.getElem_cons_zero, List.getElem_cons_succ, Option.isNone_some, Option.isNone_none, List.getD_cons_zero, List.getD_cons_succ, I.at, atL, atO, atP, evp, evs, retV, ↓reduceIte, Nat.reduceEqDiff, reduceCtorEq, AS, t1, t2, t5, t6, t7, t8, t9, t11, t12, t13, hro.Xld (show 5 < _ by simp)]
  refine X_call0 ((culletlaw04_calls8_spec w18 _ _ _ D1 D2 k n hr f1 f2 (by omega) (by omega) hk).mono ?_)
  rintro sc w19 ⟨hB, hsC, RC, lC, gC, anC, lRC⟩
  have C := C.trans (hB.mono C.size)
  have q19 := hB.size
  have oF := oF.up hB
  have oG := oG.up hB
  have hro := hro.up hB
  have gA := gA.up hB
  have gW := gW.up hB
  have gB := gB.up hB
  have gT := gT.up hB
  have f1 := f1.up hB
  have f2 := f2.up hB
  have B := B.trans (hB.mono B.size)
  clear hB
  clear hr
  have lRC' : ∀ j, j < hsC.length → (RC j).length ≤ 70368744175640 := fun j hj => by have := lRC j (by omega); omega
  obtain ⟨yF, hyF⟩ : ∃ x : Hd, Fw.sub (Cell.v xF) 0 L1.length = Cell.v x := ⟨hd _, f1.hd.1.symm⟩
  obtain ⟨yG, hyG⟩ : ∃ x : Hd, Fw.sub (Cell.v xG) 0 L2.length = Cell.v x := ⟨hd _, f2.hd.1.symm⟩
  rw [hyF] at f1 t7
  rw [hyG] at f2 t9
  simp (maxSteps := 1000000) (disch := omega) only [WS, List.getElem_cons_zero, List.getElem_cons_succ, Option.isNone_some, Option.isNone_none, List.getD_cons_zero, List.getD_cons_succ, I.at, atL, atO, atP, evp, evs, retV, ↓reduceIte, Nat.reduceEqDiff, reduceCtorEq, AS, t1, t2, t5, t6, t7, t8, t9, t11, t12, t13]
  refine X_bsl (zs := [yF, yG]) (fill2hb yF yG) (by rfl) fun s7 w20 o7 hB => ?_
  have C := C.trans (hB.mono C.size)
  have q20 := hB.size
  have oF := oF.up hB
  have oG := oG.up hB
  have hro := hro.up hB
  have gA := gA.up hB
  have gW := gW.up hB
  have gB := gB.up hB
  have gT := gT.up hB
  have gC := gC.up hB
  have f1 := f1.up hB
  have f2 := f2.up hB
  have B := B.trans (hB.mono B.size)
  clear hB
  simp (maxSteps := 1000000) (disch := omega) only [WS, List.getElem_cons_zero, List.getElem_cons_succ, Option.isNone_some, Option.isNone_none, List.getD_cons_zero, List.getD_cons_succ, I.at, atL, atO, atP, evp, evs, retV, ↓reduceIte, Nat.reduceEqDiff, reduceCtorEq, AS, t1, t2, t5, t6, t7, t8, t9, t11, t12, t13]
  refine X_call0 ((culletlaw04_copies8_spec w20 s7 [yF, yG] _ (rl2b o7.sl f1 f2 (by omega) (by omega))).mono ?_)
  rintro s8 w21 ⟨hB, hsF, lFr, gF⟩
  have C := C.trans (hB.mono C.size)
  have q21 := hB.size
  have oF := oF.up hB
  have oG := oG.up hB
  have hro := hro.up hB
  have gA := gA.up hB
  have gW := gW.up hB
  have gB := gB.up hB
  have gT := gT.up hB
  have gC := gC.up hB
  have B := B.trans (hB.mono B.size)
  clear hB
  clear o7 f1 f2
  have lFr2 : hsF.length = 2 := lFr
  have j0 : 0 < hsF.length := by omega
  have j1 : 1 < hsF.length := by omega
  simp (maxSteps := 1000000) (disch := omega) only [WS, List.getElem_cons_zero, List.getElem_cons_succ, Option.isNone_some, Option.isNone_none, List.getD_cons_zero, List.getD_cons_succ, I.at, atL, atO, atP, evp, evs, retV, ↓reduceIte, Nat.reduceEqDiff, reduceCtorEq, AS, t1, t2, t5, t6, t7, t8, t9, t11, t12, t13]
  refine WP_dops ?_
  have hB := bel_drew w21
  have C := C.trans (hB.mono C.size)
  have q22 := hB.size
  have oF := oF.up hB
  have oG := oG.up hB
  have hro := hro.up hB
  have gA := gA.up hB
  have gW := gW.up hB
  have gB := gB.up hB
  have gT := gT.up hB
  have gC := gC.up hB
  have gF := gF.up hB
  have B := B.trans (hB.mono B.size)
  clear hB
  simp (maxSteps := 1000000) (disch := omega) only [ES, List.mem_cons, List.not_mem_nil, implies_true, forall_const, WS, List.getElem_cons_zero, List.getElem_cons_succ, Option.isNone_some, Option.isNone_none, List.getD_cons_zero, List.getD_cons_succ, I.at, atL, atO, atP, evp, evs, retV, ↓reduceIte, Nat.reduceEqDiff, reduceCtorEq, AS, t1, t2, t5, t6, t7, t8, t9, t11, t12, t13]
  refine E_call0 ((polys_Over8_spec w21.drew).mono ?_)
  rintro r2 w22 ⟨hrn, hB, -⟩
  obtain ⟨bR2, mvR2, ivR2, rfl, -, -⟩ := id hrn
  have z0 : Fw.sees Try.prog (.ld (.c (elP s8 0))) w21.drew (Cell.v hsF[0]) = True := gF.top.sl.sees j0 Try.prog
  have z1 : Fw.sees Try.prog (.ld (.c (elP s8 1))) w21.drew (Cell.v hsF[1]) = True := gF.top.sl.sees j1 Try.prog
  have z5 : Fw.sees Try.prog (.ld (.c (.pointer (some ⟨b, 5, none⟩)))) w21.drew (.int .i64 n) = True := hro.sees (o := 5) (by simp) Try.prog
  have C := C.trans (hB.mono C.size)
  have q23 := hB.size
  have oF := oF.up hB
  have oG := oG.up hB
  have hro := hro.up hB
  have gA := gA.up hB
  have gW := gW.up hB
  have gB := gB.up hB
  have gT := gT.up hB
  have gC := gC.up hB
  have gF := gF.up hB
  have B := B.trans (hB.mono B.size)
  clear hB
  simp (maxSteps := 1000000) (disch := omega) only [ES, List.mem_cons, List.not_mem_nil, implies_true, forall_const, WS, List.getElem_cons_zero, List.getElem_cons_succ, Option.isNone_some, Option.isNone_none, List.getD_cons_zero, List.getD_cons_succ, I.at, atL, atO, atP, evp, evs, retV, ↓reduceIte, Nat.reduceEqDiff, reduceCtorEq, AS, t1, t2, t5, t6, t7, t8, t9, t11, t12, t13, gF.top.sl.Eix0 j0, gF.top.sl.Eld j0, gF.top.sl.Eixc 1 1 rfl j1, gF.top.sl.Eld j1, hro.Eld (show 5 < _ by simp), z0, z1, z5]
  have r0 : Sl w22 (Cell.v hsF[0]) D1 := (gF.row 0 j0).sl
  have r1 : Sl w22 (Cell.v hsF[1]) D2 := (gF.row 1 j1).sl
  refine E_call0 ((culletlaw04_calls8_spec w22 _ _ _ D1 D2 k n hrn r0 r1 (by omega) (by omega) hk).mono ?_)
  rintro sd w23 ⟨hB, hsD, RD, lD, gD, anD, -⟩
  have q24 := hB.size
  have oF := oF.up hB
  have oG := oG.up hB
  have gA := gA.up hB
  have gW := gW.up hB
  have gB := gB.up hB
  have gT := gT.up hB
  have gC := gC.up hB
  have B := B.trans (hB.mono B.size)
  clear hB
  have gD := gD.congr (R' := RC) fun j hj => anC.uniq anD j (by omega)
  clear hro gF r0 r1 z0 z1 z5 anC anD hrn C
  have lRD : ∀ j, j < hsD.length → (RC j).length ≤ 70368744175640 := fun j hj => lRC' j (by omega)
  simp (maxSteps := 1000000) (disch := omega) only [ES, List.mem_cons, List.not_mem_nil, implies_true, forall_const, WS, List.getElem_cons_zero, List.getElem_cons_succ, Option.isNone_some, Option.isNone_none, List.getD_cons_zero, List.getD_cons_succ, I.at, atL, atO, atP, evp, evs, retV, ↓reduceIte, Nat.reduceEqDiff, reduceCtorEq, AS, t1, t2, t5, t6, t7, t8, t9, t11, t12, t13]
  refine X_call0 ((culletlaw04_alike8_spec w23 sc sd hsC hsD RC (rglb gC lRC' (by omega)) (rglb gD lRD (by omega)) (by omega)).mono ?_)
  rintro _ w24 ⟨rfl, hB⟩
  have q25 := hB.size
  have oF := oF.up hB
  have oG := oG.up hB
  have gA := gA.up hB
  have gW := gW.up hB
  have gB := gB.up hB
  have gT := gT.up hB
  have gC := gC.up hB
  have gD := gD.up hB
  have B := B.trans (hB.mono B.size)
  clear hB
  simp (maxSteps := 1000000) (disch := omega) only [WS, List.getElem_cons_zero, List.getElem_cons_succ, Option.isNone_some, Option.isNone_none, List.getD_cons_zero, List.getD_cons_succ, I.at, atL, atO, atP, evp, evs, retV, ↓reduceIte, Nat.reduceEqDiff, reduceCtorEq, AS, t1, t2, t5, t6, t7, t8, t9, t11, t12, t13]
  refine X_call0 ((culletlaw04_alike8_spec w24 sa s3 hsA hsW RA (rglb gA lRA' (by omega)) (rglb gW lRW (by omega)) (by omega)).mono ?_)
  rintro _ w25 ⟨rfl, hB⟩
  have q26 := hB.size
  have oF := oF.up hB
  have oG := oG.up hB
  have gA := gA.up hB
  have gW := gW.up hB
  have gB := gB.up hB
  have gT := gT.up hB
  have gC := gC.up hB
  have gD := gD.up hB
  have B := B.trans (hB.mono B.size)
  clear hB
  simp (maxSteps := 1000000) (disch := omega) only [WS, List.getElem_cons_zero, List.getElem_cons_succ, Option.isNone_some, Option.isNone_none, List.getD_cons_zero, List.getD_cons_succ, I.at, atL, atO, atP, evp, evs, retV, ↓reduceIte, Nat.reduceEqDiff, reduceCtorEq, AS, t1, t2, t5, t6, t7, t8, t9, t11, t12, t13]
  refine X_call0 ((culletlaw04_alike8_spec w25 sb s3 hsB hsW RA (rglb gB lRB (by omega)) (rglb gW lRW (by omega)) (by omega)).mono ?_)
  rintro _ w26 ⟨rfl, hB⟩
  have q27 := hB.size
  have oF := oF.up hB
  have oG := oG.up hB
  have gA := gA.up hB
  have gB := gB.up hB
  have gT := gT.up hB
  have gC := gC.up hB
  have gD := gD.up hB
  have B := B.trans (hB.mono B.size)
  clear hB
  clear gW
  simp (maxSteps := 1000000) (disch := omega) only [WS, List.getElem_cons_zero, List.getElem_cons_succ, Option.isNone_some, Option.isNone_none, List.getD_cons_zero, List.getD_cons_succ, I.at, atL, atO, atP, evp, evs, retV, ↓reduceIte, Nat.reduceEqDiff, reduceCtorEq, AS, t1, t2, t5, t6, t7, t8, t9, t11, t12, t13]
  -- all the lists
  have iA : ∀ e ∈ rowsE hsA RA, ∀ b, Fw.blk e.1 = some b → w6.heap.size ≤ b ∧ b < w7.heap.size := fun e he b hb => by
    obtain ⟨j, hj, rfl⟩ := rowsE_mem he
    exact ⟨(gA.row j hj).low b hb, (gA.row j hj).top b hb⟩
  have iB : ∀ e ∈ rowsE hsB RA, ∀ b, Fw.blk e.1 = some b → w8.heap.size ≤ b ∧ b < w9.heap.size := fun e he b hb => by
    obtain ⟨j, hj, rfl⟩ := rowsE_mem he
    exact ⟨(gB.row j hj).low b hb, (gB.row j hj).top b hb⟩
  have iC : ∀ e ∈ rowsE hsC RC, ∀ b, Fw.blk e.1 = some b → w18.heap.size ≤ b ∧ b < w19.heap.size := fun e he b hb => by
    obtain ⟨j, hj, rfl⟩ := rowsE_mem he
    exact ⟨(gC.row j hj).low b hb, (gC.row j hj).top b hb⟩
  have iD : ∀ e ∈ rowsE hsD RC, ∀ b, Fw.blk e.1 = some b → w22.heap.size ≤ b ∧ b < w23.heap.size := fun e he b hb => by
    obtain ⟨j, hj, rfl⟩ := rowsE_mem he
    exact ⟨(gD.row j hj).low b hb, (gD.row j hj).top b hb⟩
  have L1' : Lst (α := El 8) w.heap.size (rowsE hsA RA) w26 := gA.lst.mono (by omega)
  have L2' := L1'.app (gB.lst.mono (by omega)) fun e he f hf b hb hb2 => by
    have h1 := iA e he b hb
    have h2 := iB f hf b hb2
    omega
  have L3' := L2'.app (gC.lst.mono (by omega)) fun e he f hf b hb hb2 => by
    have h2 := iC f hf b hb2
    rcases List.mem_append.1 he with he | he
    · have h1 := iA e he b hb; omega
    · have h1 := iB e he b hb; omega
  have L4' := L3'.app (gD.lst.mono (by omega)) fun e he f hf b hb hb2 => by
    have h2 := iD f hf b hb2
    rcases List.mem_append.1 he with he | he
    · rcases List.mem_append.1 he with he | he
      · have h1 := iA e he b hb; omega
      · have h1 := iB e he b hb; omega
    · have h1 := iC e he b hb; omega
  clear L1' L2' L3'
  generalize hE : rowsE hsA RA ++ rowsE hsB RA ++ rowsE hsC RC ++ rowsE hsD RC = E at L4'
  have hEh : E.map (fun e => hd e.1) = (([] ++ hsA ++ hsB) ++ hsC) ++ hsD := by
    rw [← hE]
    simp only [List.map_append, rowsE_hd, List.nil_append]
  have hEb : ∀ e ∈ E, ∀ b, Fw.blk e.1 = some b → w6.heap.size ≤ b ∧ (b < w15.heap.size ∨ w16.heap.size ≤ b) ∧ b < w23.heap.size := fun e he b hb => by
    rw [← hE] at he
    rcases List.mem_append.1 he with he | he
    · rcases List.mem_append.1 he with he | he
      · rcases List.mem_append.1 he with he | he
        · have h1 := iA e he b hb; exact ⟨by omega, by omega, by omega⟩
        · have h1 := iB e he b hb; exact ⟨by omega, by omega, by omega⟩
      · have h1 := iC e he b hb; exact ⟨by omega, by omega, by omega⟩
    · have h1 := iD e he b hb; exact ⟨by omega, by omega, by omega⟩
  have hEl : ∀ e ∈ E, e.2.length ≤ 70368744175616 := fun e he => by
    rw [← hE] at he
    simp only [List.mem_append] at he
    rcases he with ((he | he) | he) | he
    · obtain ⟨j, hj, rfl⟩ := rowsE_mem he; exact lRA j (by omega)
    · obtain ⟨j, hj, rfl⟩ := rowsE_mem he; exact lRA j (by omega)
    · obtain ⟨j, hj, rfl⟩ := rowsE_mem he; exact lRC j (by omega)
    · obtain ⟨j, hj, rfl⟩ := rowsE_mem he; exact lRC j (by omega)
  have lE : E.length = hsA.length + hsB.length + hsC.length + hsD.length := by
    have := congrArg List.length hEh
    simp only [List.length_map, List.length_append, List.length_nil] at this
    omega
  clear iA iB iC iD hE
  refine X_bsl (zs := ([] : List Hd)) (by rfl) (by rfl) fun r1 w27 or1 hB => ?_
  have gA7 := gA.top.up hB
  simp (maxSteps := 1000000) (disch := omega) only [WS, List.getElem_cons_zero, List.getElem_cons_succ, Option.isNone_some, Option.isNone_none, List.getD_cons_zero, List.getD_cons_succ, I.at, atL, atO, atP, evp, evs, retV, ↓reduceIte, Nat.reduceEqDiff, reduceCtorEq, AS, t1, t2, t5, t6, t7, t8, t9, t11, t12, t13]
  refine or1.Xapp2 gA7.sl hB.size (by simp only [List.length_nil, maxBytes]; omega) (by simp only [List.length_nil]; omega) fun r2 w28 or2 hg => ?_
  have hB := hg.below hB hB.size fun b hb => (or1.blk b hb).1
  clear hg or1 gA7
  have gB7 := gB.top.up hB
  simp (maxSteps := 1000000) (disch := omega) only [WS, List.getElem_cons_zero, List.getElem_cons_succ, Option.isNone_some, Option.isNone_none, List.getD_cons_zero, List.getD_cons_succ, I.at, atL, atO, atP, evp, evs, retV, ↓reduceIte, Nat.reduceEqDiff, reduceCtorEq, AS, t1, t2, t5, t6, t7, t8, t9, t11, t12, t13]
  refine or2.Xapp2 gB7.sl hB.size (by simp only [List.length_append, List.length_nil, maxBytes]; omega) (by simp only [List.length_append, List.length_nil]; omega) fun r3 w29 or3 hg => ?_
  have hB := hg.below hB hB.size fun b hb => (or2.blk b hb).1
  clear hg or2 gB7
  have gC7 := gC.top.up hB
  simp (maxSteps := 1000000) (disch := omega) only [WS, List.getElem_cons_zero, List.getElem_cons_succ, Option.isNone_some, Option.isNone_none, List.getD_cons_zero, List.getD_cons_succ, I.at, atL, atO, atP, evp, evs, retV, ↓reduceIte, Nat.reduceEqDiff, reduceCtorEq, AS, t1, t2, t5, t6, t7, t8, t9, t11, t12, t13]
  refine or3.Xapp2 gC7.sl hB.size (by simp only [List.length_append, List.length_nil, maxBytes]; omega) (by simp only [List.length_append, List.length_nil]; omega) fun r4 w30 or4 hg => ?_
  have hB := hg.below hB hB.size fun b hb => (or3.blk b hb).1
  clear hg or3 gC7
  have gD7 := gD.top.up hB
  simp (maxSteps := 1000000) (disch := omega) only [WS, List.getElem_cons_zero, List.getElem_cons_succ, Option.isNone_some, Option.isNone_none, List.getD_cons_zero, List.getD_cons_succ, I.at, atL, atO, atP, evp, evs, retV, ↓reduceIte, Nat.reduceEqDiff, reduceCtorEq, AS, t1, t2, t5, t6, t7, t8, t9, t11, t12, t13]
  refine or4.Xapp2 gD7.sl hB.size (by simp only [List.length_append, List.length_nil, maxBytes]; omega) (by simp only [List.length_append, List.length_nil]; omega) fun r5 w31 or5 hg => ?_
  have hB := hg.below hB hB.size fun b hb => (or4.blk b hb).1
  clear hg or4 gD7
  rw [← hEh] at or5
  have q31 := hB.size
  generalize hF : (fun u : World => RowKit.Below w.heap.size w u ∧ Seg w2b.heap.size w3.heap.size u (Cell.v xF) V1' ∧ Seg w3b.heap.size w4.heap.size u (Cell.v xG) V2' ∧ Rg w15.heap.size w16.heap.size u s6 hsT (p2b V1' V2')) = Fr
  have hF31 : Fr w31 := by rw [← hF]; exact ⟨B.trans (hB.mono B.size), oF.up hB, oG.up hB, gT.up hB⟩
  have hFrm : Frm Fr (fun b => w.heap.size ≤ b ∧ w4.heap.size ≤ b ∧ (b < w15.heap.size ∨ w16.heap.size ≤ b)) := by
    rw [← hF]
    exact ⟨fun u u' b hu hb hg => ⟨hu.1.grown hg hu.1.size fun c hc => by cases hc; exact hb.1, hu.2.1.grown hg (by omega), hu.2.2.1.grown hg (by omega), hu.2.2.2.grown hg hb.2.2⟩, fun u u' hu hB => ⟨hu.1.trans (hB.mono hu.1.size), hu.2.1.up hB, hu.2.2.1.up hB, hu.2.2.2.up hB⟩⟩
  have hFo : ∀ u, Fr u → RowKit.Below w.heap.size w u ∧ Seg w2b.heap.size w3.heap.size u (Cell.v xF) V1' ∧ Seg w3b.heap.size w4.heap.size u (Cell.v xG) V2' ∧ Rg w15.heap.size w16.heap.size u s6 hsT (p2b V1' V2') := fun u hu => by rw [← hF] at hu; exact hu
  clear hF
  obtain ⟨hap, hRof⟩ := L4'.rof B.size hF31 hB or5
  have hDb : ∀ i (hi : i < (E.map fun e => hd e.1).length) b, Fw.blk (Cell.v (E.map fun e => hd e.1)[i]) = some b → w.heap.size ≤ b ∧ w4.heap.size ≤ b ∧ (b < w15.heap.size ∨ w16.heap.size ≤ b) := fun j hj b hb => by
    have hj' : j < E.length := by simpa using hj
    rw [List.getElem_map, (L4'.ow j _ (List.getElem?_eq_getElem hj')).sl.hd.1] at hb
    have h1 := hEb E[j] (List.getElem_mem hj') b hb
    exact ⟨by omega, by omega, h1.2.1⟩
  have lEh : (E.map fun e => hd e.1).length = hsA.length + hsB.length + hsC.length + hsD.length := by rw [List.length_map, lE]
  have hEl2 : ∀ j, j < (E.map fun e => hd e.1).length → ((E.map fun e => e.2).getD j []).length ≤ 70368744175616 := fun j hj => by
    have hj' : j < E.length := by simpa using hj
    rw [List.getD_eq_getElem?_getD, List.getElem?_map, List.getElem?_eq_getElem hj']
    exact hEl E[j] (List.getElem_mem hj')
  clear or5 B hB oF oG gA gB gC gD gT
  simp (maxSteps := 1000000) (disch := omega) only [WS, List.getElem_cons_zero, List.getElem_cons_succ, Option.isNone_some, Option.isNone_none, List.getD_cons_zero, List.getD_cons_succ, I.at, atL, atO, atP, evp, evs, retV, ↓reduceIte, Nat.reduceEqDiff, reduceCtorEq, AS, t1, t2, t5, t6, t7, t8, t9, t11, t12, t13]
  refine X_call0 ((culletlaw04_apart8_spec w31 w.heap.size Fr _ r5 (E.map fun e => hd e.1) (E.map fun e => e.2) hap hFrm hDb (fun b hb => ⟨by omega, by omega, by omega⟩) hRof hEl2 (by rw [lEh]; omega) (by rw [lEh]; omega)).mono ?_)
  rintro _ w32 ⟨rfl, hF32⟩
  obtain ⟨B, oF, oG, gT⟩ := hFo _ hF32
  clear hF31 hFrm hFo hap hRof hDb L4' hEh hEb hEl hEl2 lE lEh hF32
  simp (maxSteps := 1000000) (disch := omega) only [WS, List.getElem_cons_zero, List.getElem_cons_succ, Option.isNone_some, Option.isNone_none, List.getD_cons_zero, List.getD_cons_succ, I.at, atL, atO, atP, evp, evs, retV, ↓reduceIte, Nat.reduceEqDiff, reduceCtorEq, AS, t1, t2, t5, t6, t7, t8, t9, t11, t12, t13]
  refine X_bsl (zs := [xF, xG]) (fill2hb xF xG) (by rfl) fun s9 w33 o9 hB => ?_
  have oF := oF.up hB
  have oG := oG.up hB
  have gT := gT.up hB
  have B := B.trans (hB.mono B.size)
  clear hB
  simp (maxSteps := 1000000) (disch := omega) only [WS, List.getElem_cons_zero, List.getElem_cons_succ, Option.isNone_some, Option.isNone_none, List.getD_cons_zero, List.getD_cons_succ, I.at, atL, atO, atP, evp, evs, retV, ↓reduceIte, Nat.reduceEqDiff, reduceCtorEq, AS, t1, t2, t5, t6, t7, t8, t9, t11, t12, t13]
  refine X_call0 ((culletlaw04_alike8_spec w33 s9 s6 [xF, xG] hsT _ (rl2b o9.sl oF.sl oG.sl (by omega) (by omega)) (rglb gT (fun j hj => by unfold p2b; split <;> omega) (by rw [lT]; simp)) lT.symm).mono ?_)
  rintro _ w34 ⟨rfl, hB⟩
  have B := B.trans (hB.mono B.size)
  clear hB
  simp (maxSteps := 1000000) (disch := omega) only [WS, List.getElem_cons_zero, List.getElem_cons_succ, Option.isNone_some, Option.isNone_none, List.getD_cons_zero, List.getD_cons_succ, I.at, atL, atO, atP, evp, evs, retV, ↓reduceIte, Nat.reduceEqDiff, reduceCtorEq, AS]
  exact B
end Go.Proofs.Ytcdagkcchfibjaa.Fw

set_option linter.unusedVariables false
set_option linter.unusedSimpArgs false
set_option maxRecDepth 100000
set_option maxHeartbeats 1000000
namespace Go.Proofs.Ytcdagkcchfibjaa.Fw
open Go Go.Fw Go.Proofs
attribute [local irreducible] stepI
def c_culletlaw04_PolysMemory : C := .seq (.ops [⟨0, (some 1), none, .box 33 (.t 0), []⟩, ⟨1, (some 2), none, .mov (.c (.bool false)), []⟩]) (.seq (.seq (.ops [⟨0, (some 3), none, .call (.c (.func (.func 12) #[] #[])) [], []⟩, ⟨1, (some 4), none, .call (.c (.func (.func 23) #[] #[])) [.t 3], []⟩, ⟨2, (some 5), none, .un .not (.t 4), []⟩, ⟨3, (some 6), none, .mov (.t 5), []⟩, ⟨4, (some 7), (some (6, false)), .fad 0 (.t 1), []⟩, ⟨5, (some 8), (some (6, false)), .ld (.t 7), []⟩, ⟨6, (some 9), (some (6, false)), .bin .lss (.t 8) (.c (.int .i64 1)), []⟩, ⟨7, (some 10), none, .pick (.t 6) (.c (.bool true)) (.t 9), []⟩, ⟨8, (some 11), none, .mov (.t 10), []⟩, ⟨9, (some 12), (some (11, false)), .fad 0 (.t 1), []⟩, ⟨10, (some 13), (some (11, false)), .ld (.t 12), []⟩, ⟨11, (some 14), (some (11, false)), .bin .gtr (.t 13) (.c (.int .i64 10)), []⟩, ⟨12, (some 15), none, .pick (.t 11) (.c (.bool true)) (.t 14), []⟩]) (.ite (.t 15) (.seq (.ops [⟨0, (some 16), none, .call (.c (.func (.func 12) #[] #[])) [], []⟩, ⟨1, (some 17), none, .call (.c (.func (.func 23) #[] #[])) [.t 16], []⟩, ⟨2, (some 2), none, .mov (.t 17), []⟩]) .ret) .skip)) (.seq (.seq (.ops [⟨0, (some 18), none, .ldn 6 (.t 1), []⟩, ⟨1, (some 19), none, .call (.c (.func (.func 31) #[] #[])) [.t 18], []⟩, ⟨2, (some 20), none, .un .not (.t 19), []⟩, ⟨3, (some 21), none, .mov (.t 20), []⟩, ⟨4, (some 22), (some (21, false)), .ldn 6 (.t 1), []⟩, ⟨5, (some 23), (some (21, false)), .call (.c (.func (.func 32) #[] #[])) [.t 22], []⟩, ⟨6, (some 24), (some (21, false)), .un .not (.t 23), []⟩, ⟨7, (some 25), none, .pick (.t 21) (.c (.bool true)) (.t 24), []⟩]) (.ite (.t 25) (.seq (.ops [⟨0, (some 2), none, .mov (.c (.bool false)), []⟩]) .ret) .skip)) (.seq (.seq (.ops [⟨0, (some 26), none, .fad 0 (.t 1), []⟩, ⟨1, (some 27), none, .ld (.t 26), []⟩, ⟨2, (some 28), none, .bin .eql (.t 27) (.c (.int .i64 3)), []⟩]) (.ite (.t 28) (.seq (.ops [⟨0, (some 2), none, .mov (.c (.bool true)), []⟩]) .ret) .skip)) (.seq (.seq (.ops [⟨0, (some 29), none, .fad 1 (.t 1), []⟩, ⟨1, (some 30), none, .ld (.t 29), []⟩]) (.ite (.t 30) (.seq (.ops [⟨0, (some 31), none, .ldn 6 (.t 1), []⟩, ⟨1, (some 32), none, .fad 0 (.t 1), []⟩, ⟨2, (some 33), none, .ld (.t 32), []⟩, ⟨3, (some 34), none, .call (.c (.func (.func 33) #[] #[])) [.t 31, .t 33], []⟩, ⟨4, (some 2), none, .mov (.t 34), []⟩]) .ret) .skip)) (.seq (.ops [⟨0, (some 35), none, .ldn 6 (.t 1), []⟩, ⟨1, (some 36), none, .fad 0 (.t 1), []⟩, ⟨2, (some 37), none, .ld (.t 36), []⟩, ⟨3, (some 38), none, .call (.c (.func (.func 34) #[] #[])) [.t 35, .t 37], []⟩, ⟨4, (some 2), none, .mov (.t 38), []⟩]) .ret)))))
attribute [irreducible] c_culletlaw04_PolysMemory
theorem run_culletlaw04_PolysMemory {args : List Value} {w : World} {K : Value → World → Prop} (hn : args.length ≤ 39) (h : WP Try.prog c_culletlaw04_PolysMemory (endQ [.t 2] K) (initT args) w) : CallV Try.prog 11 args w K :=
  call_of follows Try.func11 (by kernel_rfl) (by kernel_rfl) hn h
end Go.Proofs.Ytcdagkcchfibjaa.Fw
namespace Go.Proofs.Ytcdagkcchfibjaa.Fw
open Go Go.Fw
theorem culletlaw04_PolysMemory_spec (w : World) (k n : Int) (fl : Bool) (F G : Value) (LF LG : List (El 16)) (x : El 16) (hF : Sl w F LF) (hG : Sl w G LG) (lF : LF.length ≤ 70368744175616) (lG : LG.length ≤ 70368744175616) :
    CallV Try.prog 11 [.agg #[.int .i64 k, .bool fl, F, G, .int .u16 (x.v.toNat : Int), .int .i64 n]] w fun v w' => v = .bool true ∧ RowKit.Below w.heap.size w w' := by
  refine run_culletlaw04_PolysMemory (by simp) ?_
  simp only [c_culletlaw04_PolysMemory, WS, List.getElem_cons_zero, List.getElem_cons_succ, Option.isNone_some, Option.isNone_none, List.getD_cons_zero, List.getD_cons_succ, I.at, atL, atO, atP, evp, evs, retV, ↓reduceIte, Nat.reduceEqDiff, reduceCtorEq]
  refine X_box fun b w1 hro hlb hB => ?_
  have hro : Row w1 b [.int .i64 k, .bool fl, F, G, .int .u16 (x.v.toNat : Int), .int .i64 n] := hro
  have B := hB
  have hF := hF.up hB
  have hG := hG.up hB
  clear hB hlb
  simp (maxSteps := 1000000) (disch := omega) only [WS, List.getElem_cons_zero, List.getElem_cons_succ, Option.isNone_some, Option.isNone_none, List.getD_cons_zero, List.getD_cons_succ, I.at, atL, atO, atP, evp, evs, retV, ↓reduceIte, Nat.reduceEqDiff, reduceCtorEq, AS]
  refine X_call0 ((culletlaw04_both_spec w1).mono ?_)
  rintro _ w2 ⟨rb, rw, rfl, hb, hw, hB⟩
  have hF := hF.up hB
  have hG := hG.up hB
  have hro := hro.up hB
  have B := B.trans (hB.mono B.size)
  clear hB
  simp (maxSteps := 1000000) (disch := omega) only [WS, List.getElem_cons_zero, List.getElem_cons_succ, Option.isNone_some, Option.isNone_none, List.getD_cons_zero, List.getD_cons_succ, I.at, atL, atO, atP, evp, evs, retV, ↓reduceIte, Nat.reduceEqDiff, reduceCtorEq, AS]
  refine X_call0 ((culletlaw04_awake_spec w2 rb rw hb hw).mono ?_)
  rintro _ w3 ⟨rfl, hB⟩
  have hF := hF.up hB
  have hG := hG.up hB
  have hro := hro.up hB
  have B := B.trans (hB.mono B.size)
  clear hB
  clear hb hw
  have two : ∀ u, RowKit.Below w.heap.size w u → CallV Try.prog 12 [] u fun v u' => CallV Try.prog 23 [v] u' fun v2 u2 => v2 = .bool true ∧ RowKit.Below w.heap.size w u2 := fun u hu => by
    refine (culletlaw04_both_spec u).mono ?_
    rintro _ u2 ⟨rb, rw, rfl, hb, hw, hB⟩
    refine (culletlaw04_awake_spec u2 rb rw hb hw).mono ?_
    rintro _ u3 ⟨rfl, hB2⟩
    exact ⟨rfl, (hu.trans (hB.mono hu.size)).trans (hB2.mono (hu.trans (hB.mono hu.size)).size)⟩
  by_cases h1 : k < 1
  · simp (maxSteps := 1000000) (disch := omega) only [WS, List.getElem_cons_zero, List.getElem_cons_succ, Option.isNone_some, Option.isNone_none, List.getD_cons_zero, List.getD_cons_succ, I.at, atL, atO, atP, evp, evs, retV, ↓reduceIte, Nat.reduceEqDiff, reduceCtorEq, AS, hro.Xld (show 0 < _ by simp)]
    refine X_call0 ((two _ B).mono ?_)
    intro v u hv
    simp (maxSteps := 1000000) (disch := omega) only [WS, List.getElem_cons_zero, List.getElem_cons_succ, Option.isNone_some, Option.isNone_none, List.getD_cons_zero, List.getD_cons_succ, I.at, atL, atO, atP, evp, evs, retV, ↓reduceIte, Nat.reduceEqDiff, reduceCtorEq, AS]
    refine X_call0 (hv.mono ?_)
    rintro _ u2 ⟨rfl, hB⟩
    simp (maxSteps := 1000000) (disch := omega) only [WS, List.getElem_cons_zero, List.getElem_cons_succ, Option.isNone_some, Option.isNone_none, List.getD_cons_zero, List.getD_cons_succ, I.at, atL, atO, atP, evp, evs, retV, ↓reduceIte, Nat.reduceEqDiff, reduceCtorEq, AS]
    exact hB
  by_cases h2 : 10 < k
  · simp (maxSteps := 1000000) (disch := omega) only [WS, List.getElem_cons_zero, List.getElem_cons_succ, Option.isNone_some, Option.isNone_none, List.getD_cons_zero, List.getD_cons_succ, I.at, atL, atO, atP, evp, evs, retV, ↓reduceIte, Nat.reduceEqDiff, reduceCtorEq, AS, hro.Xld (show 0 < _ by simp)]
    refine X_call0 ((two _ B).mono ?_)
    intro v u hv
    simp (maxSteps := 1000000) (disch := omega) only [WS, List.getElem_cons_zero, List.getElem_cons_succ, Option.isNone_some, Option.isNone_none, List.getD_cons_zero, List.getD_cons_succ, I.at, atL, atO, atP, evp, evs, retV, ↓reduceIte, Nat.reduceEqDiff, reduceCtorEq, AS]
    refine X_call0 (hv.mono ?_)
    rintro _ u2 ⟨rfl, hB⟩
    simp (maxSteps := 1000000) (disch := omega) only [WS, List.getElem_cons_zero, List.getElem_cons_succ, Option.isNone_some, Option.isNone_none, List.getD_cons_zero, List.getD_cons_succ, I.at, atL, atO, atP, evp, evs, retV, ↓reduceIte, Nat.reduceEqDiff, reduceCtorEq, AS]
    exact hB
  clear two
  simp (maxSteps := 1000000) (disch := omega) only [WS, List.getElem_cons_zero, List.getElem_cons_succ, Option.isNone_some, Option.isNone_none, List.getD_cons_zero, List.getD_cons_succ, I.at, atL, atO, atP, evp, evs, retV, ↓reduceIte, Nat.reduceEqDiff, reduceCtorEq, AS, hro.Xld (show 0 < _ by simp), hro.Xldn (n := 6) rfl]
  refine X_call0 ((culletlaw04_looks16_spec w3 k n fl F G LF x hF lF).mono ?_)
  rintro _ w4 ⟨rfl, hB⟩
  have hF := hF.up hB
  have hG := hG.up hB
  have hro := hro.up hB
  have B := B.trans (hB.mono B.size)
  clear hB
  simp (maxSteps := 1000000) (disch := omega) only [WS, List.getElem_cons_zero, List.getElem_cons_succ, Option.isNone_some, Option.isNone_none, List.getD_cons_zero, List.getD_cons_succ, I.at, atL, atO, atP, evp, evs, retV, ↓reduceIte, Nat.reduceEqDiff, reduceCtorEq, AS, hro.Xldn (n := 6) rfl]
  refine X_call0 ((culletlaw04_looks8_spec w4 k n fl F G LF x hF lF).mono ?_)
  rintro _ w5 ⟨rfl, hB⟩
  have hF := hF.up hB
  have hG := hG.up hB
  have hro := hro.up hB
  have B := B.trans (hB.mono B.size)
  clear hB
  by_cases h3 : k = 3
  · simp (maxSteps := 1000000) (disch := omega) only [WS, List.getElem_cons_zero, List.getElem_cons_succ, Option.isNone_some, Option.isNone_none, List.getD_cons_zero, List.getD_cons_succ, I.at, atL, atO, atP, evp, evs, retV, ↓reduceIte, Nat.reduceEqDiff, reduceCtorEq, AS, hro.Xld (show 0 < _ by simp)]
    exact B
  have hk : k = 1 ∨ k = 2 ∨ k = 4 ∨ k = 5 ∨ k = 6 ∨ k = 7 ∨ k = 8 ∨ k = 9 ∨ k = 10 := by omega
  cases fl with
  | true =>
    simp (maxSteps := 1000000) (disch := omega) only [WS, List.getElem_cons_zero, List.getElem_cons_succ, Option.isNone_some, Option.isNone_none, List.getD_cons_zero, List.getD_cons_succ, I.at, atL, atO, atP, evp, evs, retV, ↓reduceIte, Nat.reduceEqDiff, reduceCtorEq, AS, hro.Xld (show 0 < _ by simp), hro.Xld (show 1 < _ by simp), hro.Xldn (n := 6) rfl]
    refine X_call0 ((culletlaw04_keeps16_spec w5 k k n true F G LF LG x hF hG lF lG hk).mono ?_)
    rintro _ w6 ⟨rfl, hB⟩
    have B := B.trans (hB.mono B.size)
    clear hB
    simp (maxSteps := 1000000) (disch := omega) only [WS, List.getElem_cons_zero, List.getElem_cons_succ, Option.isNone_some, Option.isNone_none, List.getD_cons_zero, List.getD_cons_succ, I.at, atL, atO, atP, evp, evs, retV, ↓reduceIte, Nat.reduceEqDiff, reduceCtorEq, AS]
    exact B
  | false =>
    simp (maxSteps := 1000000) (disch := omega) only [WS, List.getElem_cons_zero, List.getElem_cons_succ, Option.isNone_some, Option.isNone_none, List.getD_cons_zero, List.getD_cons_succ, I.at, atL, atO, atP, evp, evs, retV, ↓reduceIte, Nat.reduceEqDiff, reduceCtorEq, AS, hro.Xld (show 0 < _ by simp), hro.Xld (show 1 < _ by simp), hro.Xldn (n := 6) rfl]
    refine X_call0 ((culletlaw04_keeps8_spec w5 k k n false F G LF LG x hF hG lF lG hk).mono ?_)
    rintro _ w6 ⟨rfl, hB⟩
    have B := B.trans (hB.mono B.size)
    clear hB
    simp (maxSteps := 1000000) (disch := omega) only [WS, List.getElem_cons_zero, List.getElem_cons_succ, Option.isNone_some, Option.isNone_none, List.getD_cons_zero, List.getD_cons_succ, I.at, atL, atO, atP, evp, evs, retV, ↓reduceIte, Nat.reduceEqDiff, reduceCtorEq, AS]
    exact B
end Go.Proofs.Ytcdagkcchfibjaa.Fw
