import Derived.Test.YtpmfeaajpjjfiaaProg
import Derived.Test.YtpmfeaajpjjfiaaFwTA
import Derived.Test.YtpmfeaajpjjfiaaSS14biA
set_option linter.all false
set_option linter.unusedVariables false
set_option linter.unusedSimpArgs false
set_option maxRecDepth 100000
set_option maxHeartbeats 1000000
namespace Go.Proofs.Ytpmfeaajpjjfiaa.Fw
open Go Go.Fw Go.Proofs
attribute [local irreducible] stepI
def c_culletlaw14_inPlace : C := .seq (.ops [⟨0, (some 1), none, .box 60 (.t 0), []⟩, ⟨1, (some 2), none, .mov (.c (.bool false)), []⟩]) (.seq (.ops [⟨0, (some 11), none, .fad 2 (.t 1), []⟩, ⟨1, (some 12), none, .ld (.t 11), []⟩, ⟨2, (some 13), none, .call (.c (.func (.func 75) #[] #[])) [.t 12], []⟩, ⟨3, (some 3), none, .mov (.t 13), []⟩]) (.seq (.ops [⟨0, (some 14), none, .mov (.t 3), []⟩, ⟨1, (some 15), none, .mov (.t 3), []⟩, ⟨2, (some 16), none, .len (.t 15), []⟩, ⟨3, (some 17), none, .bin .add (.t 16) (.c (.int .i64 1)), []⟩, ⟨4, (some 18), none, .slc 1 (.t 14) none (some (.t 17)) none, []⟩, ⟨5, (some 4), none, .mov (.t 18), []⟩]) (.seq (.ops [⟨0, (some 19), none, .bsl 23 0 [.slice none 0 0] [], []⟩, ⟨1, (some 20), none, .mov (.t 3), []⟩, ⟨2, (some 21), none, .app 23 24 [.slice none 0 0] (.t 19) (.t 20), []⟩, ⟨3, (some 5), none, .mov (.t 21), []⟩]) (.seq (.ops [⟨0, (some 23), none, .fad 2 (.t 1), []⟩, ⟨1, (some 24), none, .ld (.t 23), []⟩, ⟨2, (some 25), none, .fad 3 (.t 1), []⟩, ⟨3, (some 26), none, .ld (.t 25), []⟩, ⟨4, (some 27), none, .fad 0 (.t 1), []⟩, ⟨5, (some 28), none, .ld (.t 27), []⟩, ⟨6, (some 29), none, .bin .eql (.t 28) (.c (.int .i64 4)), []⟩, ⟨7, (some 30), none, .call (.c (.func (.func 76) #[] #[])) [.t 24, .t 26, .t 29], []⟩, ⟨8, (some 22), none, .mov (.t 30), []⟩, ⟨9, (some 31), none, .ext (.t 22) 0, []⟩, ⟨10, (some 32), none, .ext (.t 22) 1, []⟩, ⟨11, (some 6), none, .mov (.t 31), []⟩, ⟨12, (some 7), none, .mov (.t 32), []⟩]) (.seq (.ops [⟨0, (some 8), none, .mov (.c (.int .i64 0)), []⟩]) (.seq (.seq (.ops [⟨0, (some 33), none, .fad 0 (.t 1), []⟩, ⟨1, (some 34), none, .ld (.t 33), []⟩, ⟨2, (some 35), none, .bin .eql (.t 34) (.c (.int .i64 3)), []⟩]) (.ite (.t 35) (.ops [⟨0, (some 36), none, .mov (.t 3), []⟩, ⟨1, (some 37), none, .fad 3 (.t 1), []⟩, ⟨2, (some 38), none, .ld (.t 37), []⟩, ⟨3, (some 39), none, .call (.c (.func (.func 24) #[] #[])) [.t 36, .t 38], []⟩, ⟨4, (some 8), none, .mov (.t 39), []⟩]) (.ops [⟨0, (some 40), none, .mov (.t 3), []⟩, ⟨1, (some 41), none, .fad 3 (.t 1), []⟩, ⟨2, (some 42), none, .ld (.t 41), []⟩, ⟨3, (some 43), none, .call (.c (.func (.func 25) #[] #[])) [.t 40, .t 42], []⟩, ⟨4, (some 8), none, .mov (.t 43), []⟩]))) (.seq (.seq (.ops [⟨0, (some 44), none, .mov (.t 8), []⟩, ⟨1, (some 45), none, .mov (.t 7), []⟩, ⟨2, (some 46), none, .bin .neq (.t 44) (.t 45), []⟩]) (.ite (.t 46) (.seq (.ops [⟨0, (some 2), none, .mov (.c (.bool false)), []⟩]) .ret) .skip)) (.seq (.seq (.ops [⟨0, (some 9), none, .mov (.c (.int .i64 0)), []⟩]) (.block 0 (.loop (.seq (.seq (.ops [⟨0, (some 47), none, .mov (.t 9), []⟩, ⟨1, (some 48), none, .mov (.t 5), []⟩, ⟨2, (some 49), none, .len (.t 48), []⟩, ⟨3, (some 50), none, .bin .lss (.t 47) (.t 49), []⟩]) (.ite (.t 50) .skip (.exit 0))) (.seq (.block 1 (.seq (.seq (.dops [⟨0, (some 53), none, .mov (.t 3), []⟩, ⟨1, (some 54), none, .mov (.t 9), []⟩, ⟨2, (some 55), none, .ixs 1 (.t 53) (.t 54), []⟩, ⟨3, (some 56), none, .ld (.t 55), []⟩, ⟨4, (some 57), none, .len (.t 56), []⟩, ⟨5, (some 58), none, .mov (.t 5), []⟩, ⟨6, (some 59), none, .mov (.t 9), []⟩, ⟨7, (some 60), none, .ixs 1 (.t 58) (.t 59), []⟩, ⟨8, (some 61), none, .ld (.t 60), []⟩, ⟨9, (some 62), none, .len (.t 61), []⟩, ⟨10, (some 63), none, .bin .neq (.t 57) (.t 62), []⟩, ⟨11, (some 64), none, .mov (.t 63), []⟩, ⟨12, (some 65), (some (64, false)), .mov (.t 3), []⟩, ⟨13, (some 66), (some (64, false)), .mov (.t 9), []⟩, ⟨14, (some 67), (some (64, false)), .ixs 1 (.t 65) (.t 66), []⟩, ⟨15, (some 68), (some (64, false)), .ld (.t 67), []⟩, ⟨16, (some 69), (some (64, false)), .mov (.t 6), []⟩, ⟨17, (some 70), (some (64, false)), .mov (.t 9), []⟩, ⟨18, (some 71), (some (64, false)), .ixs 1 (.t 69) (.t 70), []⟩, ⟨19, (some 72), (some (64, false)), .ld (.t 71), []⟩, ⟨20, (some 73), (some (64, false)), .call (.c (.func (.func 19) #[] #[])) [.t 68, .t 72], []⟩, ⟨21, (some 74), (some (64, false)), .un .not (.t 73), []⟩, ⟨22, (some 75), none, .pick (.t 64) (.c (.bool true)) (.t 74), []⟩, ⟨23, (some 76), none, .mov (.t 75), []⟩, ⟨24, (some 77), (some (76, false)), .mov (.t 5), []⟩, ⟨25, (some 78), (some (76, false)), .mov (.t 9), []⟩, ⟨26, (some 79), (some (76, false)), .ixs 1 (.t 77) (.t 78), []⟩, ⟨27, (some 80), (some (76, false)), .ld (.t 79), []⟩, ⟨28, (some 81), (some (76, false)), .mov (.t 6), []⟩, ⟨29, (some 82), (some (76, false)), .mov (.t 9), []⟩, ⟨30, (some 83), (some (76, false)), .ixs 1 (.t 81) (.t 82), []⟩, ⟨31, (some 84), (some (76, false)), .ld (.t 83), []⟩, ⟨32, (some 85), (some (76, false)), .call (.c (.func (.func 19) #[] #[])) [.t 80, .t 84], []⟩, ⟨33, (some 86), (some (76, false)), .un .not (.t 85), []⟩, ⟨34, (some 87), none, .pick (.t 76) (.c (.bool true)) (.t 86), []⟩]) (.ite (.t 87) (.seq (.ops [⟨0, (some 2), none, .mov (.c (.bool false)), []⟩]) .ret) .skip)) (.seq (.ops [⟨0, (some 10), none, .mov (.c (.int .i64 0)), []⟩]) (.block 2 (.loop (.seq (.seq (.ops [⟨0, (some 88), none, .mov (.t 10), []⟩, ⟨1, (some 89), none, .mov (.t 5), []⟩, ⟨2, (some 90), none, .mov (.t 9), []⟩, ⟨3, (some 91), none, .ixs 1 (.t 89) (.t 90), []⟩, ⟨4, (some 92), none, .ld (.t 91), []⟩, ⟨5, (some 93), none, .len (.t 92), []⟩, ⟨6, (some 94), none, .bin .lss (.t 88) (.t 93), []⟩]) (.ite (.t 94) .skip (.exit 2))) (.seq (.block 3 (.seq (.ops [⟨0, (some 97), none, .mov (.t 3), []⟩, ⟨1, (some 98), none, .mov (.t 9), []⟩, ⟨2, (some 99), none, .ixs 1 (.t 97) (.t 98), []⟩, ⟨3, (some 100), none, .ld (.t 99), []⟩, ⟨4, (some 101), none, .mov (.t 10), []⟩, ⟨5, (some 102), none, .ixs 1 (.t 100) (.t 101), []⟩, ⟨6, (some 103), none, .ld (.t 102), []⟩, ⟨7, (some 104), none, .bin .add (.t 103) (.c (.int .u16 1)), []⟩, ⟨8, (some 105), none, .ixs 1 (.t 100) (.t 101), []⟩, ⟨9, none, none, .st (.t 105) (.t 104), []⟩]) (.seq (.dops [⟨0, (some 106), none, .mov (.t 5), []⟩, ⟨1, (some 107), none, .mov (.t 9), []⟩, ⟨2, (some 108), none, .ixs 1 (.t 106) (.t 107), []⟩, ⟨3, (some 109), none, .ld (.t 108), []⟩, ⟨4, (some 110), none, .mov (.t 10), []⟩, ⟨5, (some 111), none, .ixs 1 (.t 109) (.t 110), []⟩, ⟨6, (some 112), none, .ld (.t 111), []⟩, ⟨7, (some 113), none, .mov (.t 3), []⟩, ⟨8, (some 114), none, .mov (.t 9), []⟩, ⟨9, (some 115), none, .ixs 1 (.t 113) (.t 114), []⟩, ⟨10, (some 116), none, .ld (.t 115), []⟩, ⟨11, (some 117), none, .mov (.t 10), []⟩, ⟨12, (some 118), none, .ixs 1 (.t 116) (.t 117), []⟩, ⟨13, (some 119), none, .ld (.t 118), []⟩, ⟨14, (some 120), none, .bin .neq (.t 112) (.t 119), []⟩]) (.ite (.t 120) (.seq (.ops [⟨0, (some 2), none, .mov (.c (.bool false)), []⟩]) .ret) .skip)))) (.ops [⟨0, (some 95), none, .mov (.t 10), []⟩, ⟨1, (some 96), none, .bin .add (.t 95) (.c (.int .i64 1)), []⟩, ⟨2, (some 10), none, .mov (.t 96), []⟩])))))))) (.ops [⟨0, (some 51), none, .mov (.t 9), []⟩, ⟨1, (some 52), none, .bin .add (.t 51) (.c (.int .i64 1)), []⟩, ⟨2, (some 9), none, .mov (.t 52), []⟩])))))) (.seq (.ops [⟨0, (some 121), none, .mov (.t 5), []⟩, ⟨1, (some 122), none, .mov (.t 4), []⟩, ⟨2, (some 123), none, .call (.c (.func (.func 77) #[] #[])) [.t 121, .t 122], []⟩, ⟨3, (some 2), none, .mov (.t 123), []⟩]) .ret)))))))))
attribute [irreducible] c_culletlaw14_inPlace
theorem run_culletlaw14_inPlace {args : List Value} {w : World} {K : Value → World → Prop} (hn : args.length ≤ 124) (h : WP Try.prog c_culletlaw14_inPlace (endQ [.t 2] K) (initT args) w) : CallV Try.prog 57 args w K :=
  call_of follows Try.func57 (by kernel_rfl) (by kernel_rfl) hn h
end Go.Proofs.Ytpmfeaajpjjfiaa.Fw
namespace Go.Proofs.Ytpmfeaajpjjfiaa.Fw
open Go Go.Fw
set_option maxHeartbeats 4000000 in
theorem culletlaw14_inPlaceF_spec (w : World) (V Rs : Value) (hin : List Hd) (R : Nat → List (El 16)) (a n : Int) (h : Rin w Rs hin R) (hs1 : scal V = true) (hs2 : scal Rs = true) :
    CallV Try.prog 57 [.agg #[.int .i64 3, V, Rs, .int .i64 a, .int .i64 n]] w fun v w' => v = .bool true ∧ RowKit.Below w.heap.size w w' := by
  have hnum := h.num
  refine run_culletlaw14_inPlace (by simp) ?_
  simp only [c_culletlaw14_inPlace, WS, List.getElem_cons_zero, List.getElem_cons_succ, Option.isNone_some, Option.isNone_none, List.getD_cons_zero, List.getD_cons_succ, I.at, atL, atO, atP, evp, evs, retV, ↓reduceIte, Nat.reduceEqDiff, reduceCtorEq]
  refine X_box fun bo w1 hro hbo hB => ?_
  have hro : Row w1 bo [.int .i64 3, V, Rs, .int .i64 a, .int .i64 n] := hro
  have B := hB
  have h1 := h.up hB
  clear hB
  simp (maxSteps := 1000000) (disch := omega) only [WS, List.getElem_cons_zero, List.getElem_cons_succ, Option.isNone_some, Option.isNone_none, List.getD_cons_zero, List.getD_cons_succ, I.at, atL, atO, atP, evp, evs, retV, ↓reduceIte, Nat.reduceEqDiff, reduceCtorEq, AS, hro.Xld (show 2 < _ by simp)]
  refine X_call0 ((culletlaw14_laidRows_spec w1 Rs hin R h1).mono ?_)
  rintro v w2 ⟨hB, hs, h4, ln, hap, hT, hTr, h74, h4a, h4b⟩
  have h2 := h1.up hB
  have B1s := B.size
  have S12 := hB.size
  have hro := hro.up hB
  have B := B.trans (hB.mono B.size)
  clear hB
  have hv := hT.ow.sl
  have lv : 1 ≤ hs.length + ([h4] : List Hd).length := by simp
  have hle : hs.length + 1 ≤ hs.length + ([h4] : List Hd).length := by simp
  have hfull : Sl w2 (Fw.sub v 0 (hs.length + 1)) (hs ++ [h4]) := hT.whole.sl
  simp (maxSteps := 1000000) (disch := omega) only [WS, List.getElem_cons_zero, List.getElem_cons_succ, Option.isNone_some, Option.isNone_none, List.getD_cons_zero, List.getD_cons_succ, I.at, atL, atO, atP, evp, evs, retV, ↓reduceIte, Nat.reduceEqDiff, reduceCtorEq, AS, hv.Xlen, hT.XslcHi hle]
  refine X_bslE fun p w3 op hB => ?_
  have hv3 := hv.up hB
  simp (maxSteps := 1000000) (disch := omega) only [WS, List.getElem_cons_zero, List.getElem_cons_succ, Option.isNone_some, Option.isNone_none, List.getD_cons_zero, List.getD_cons_succ, I.at, atL, atO, atP, evp, evs, retV, ↓reduceIte, Nat.reduceEqDiff, reduceCtorEq, AS]
  refine op.Xapp hv3 hB hB.size (by simp only [maxBytes]; omega) (by decide) (by omega) fun wa w4 ow hB S34 => ?_
  clear op hv3
  have h4' := h2.up hB
  have wab : ∀ b, Fw.blk wa = some b → w2.heap.size ≤ b := fun b hb => (ow.blk b hb).1
  have hfull := hfull.up hB
  have hv := hv.up hB
  have hTr4 : ∀ i (hi : i < hs.length), OwT w1.heap.size w4 (Cell.v hs[i]) (R i) tl3 := fun i hi => (hTr i hi).up hB
  have hrb : ∀ i (hi : i < hs.length) b, Fw.blk (Cell.v hs[i]) = some b → b < w2.heap.size := fun i hi b hb => by
    obtain ⟨c, hc, -, hlt⟩ := (hTr i hi).blk
    rw [hc] at hb; cases hb; exact hlt
  have h74 := h74.sl.up hB
  have S4 := hB.size
  have h4'' := h4'
  have hro := hro.up hB
  have B := B.trans (hB.mono B.size)
  clear hB
  clear hTr
  have ow := ow.sl
  simp (maxSteps := 1000000) (disch := omega) only [WS, List.getElem_cons_zero, List.getElem_cons_succ, Option.isNone_some, Option.isNone_none, List.getD_cons_zero, List.getD_cons_succ, I.at, atL, atO, atP, evp, evs, retV, ↓reduceIte, Nat.reduceEqDiff, reduceCtorEq, AS, hro.Xld (show 2 < _ by simp), hro.Xld (show 3 < _ by simp), hro.Xld (show 0 < _ by simp), show decide ((3 : Int) = 4) = false from rfl]
  refine X_call0 ((culletref14_RowsF_spec w4 Rs hin R a h4'').mono ?_)
  rintro _ w5 ⟨hB, z, hsW, VW, e, rfl, lW, hA, hcases⟩
  have hfull := hfull.up hB
  have hv := hv.up hB
  have hTr5 : ∀ i (hi : i < hs.length), OwT w1.heap.size w5 (Cell.v hs[i]) (R i) tl3 := fun i hi => (hTr4 i hi).up hB
  have h74 := h74.up hB
  have ow := ow.up hB
  have S5 := hB.size
  have hro := hro.up hB
  have B := B.trans (hB.mono B.size)
  clear hB
  clear hTr4
  -- the frame
  generalize hF : (fun u : World => RowKit.Below w.heap.size w u ∧ Sl u wa hs ∧ Ans w4 u z hsW VW ∧ Sl u (Fw.sub v 0 (hs.length + 1)) (hs ++ [h4]) ∧ Sl u (Cell.v h4) [(⟨74⟩ : El 16)]) = F
  have hF5 : F w5 := by rw [← hF]; exact ⟨B, ow, hA, hfull, h74⟩
  have hFrm : Frm F (fun b => ∃ i, ∃ hi : i < hs.length, Fw.blk (Cell.v hs[i]) = some b) := by
    rw [← hF]
    refine ⟨fun u u' b hu hb hg => ?_, fun u u' hu hB => ⟨hu.1.trans (hB.mono hu.1.size), hu.2.1.up hB, hu.2.2.1.up hB, hu.2.2.2.1.up hB, hu.2.2.2.2.up hB⟩⟩
    obtain ⟨u1, u2, u3, u4, u5⟩ := hu
    obtain ⟨i, hi, hb⟩ := hb
    have hlt := hrb i hi b hb
    have hge : w.heap.size ≤ b := by
      obtain ⟨c, hc, hle, -⟩ := (hTr5 i hi).blk
      rw [hc] at hb; cases hb; omega
    refine ⟨u1.grown hg u1.size fun c hc => by cases hc; exact hge, u2.grown hg (Or.inl fun e => by have := wab b e; omega), ⟨u3.sl.grown hg (Or.inl fun e => by have := u3.vb b e; omega), fun x hx => (u3.row x hx).grown hg (Or.inl fun e => by have := u3.nb x hx b e; omega), u3.nb, u3.vb⟩, u4.grown hg (Or.inl fun e => ?_), u5.grown hg (Or.inl fun e => ?_)⟩
    · rw [sub_blk] at e
      exact hap.list i hi b hb e
    · exact h4a i hi b hb e
  have hFo : ∀ u, F u → RowKit.Below w.heap.size w u ∧ Sl u wa hs ∧ Ans w4 u z hsW VW ∧ Sl u (Fw.sub v 0 (hs.length + 1)) (hs ++ [h4]) ∧ Sl u (Cell.v h4) [(⟨74⟩ : El 16)] := fun u hu => by rw [← hF] at hu; exact hu
  clear hF
  have hDb : ∀ i (hi : i < hs.length) b, Fw.blk (Cell.v hs[i]) = some b → ∃ j, ∃ hj : j < hs.length, Fw.blk (Cell.v hs[j]) = some b := fun i hi b hb => ⟨i, hi, hb⟩
  have hR := Rot.rws (α := El 16) (B := w1.heap.size) (Tm := fun _ => tl3) hap hFrm hDb
  have hM : Rot w1.heap.size F v hs (fun _ => tl3) (RL R hs.length) w5 := ⟨RL_len _ _, fun i hi => by rw [RL_get hi]; exact hTr5 i hi, hv, hF5, by omega⟩
  clear hF5 hfull hv hTr5 h74 ow B
  simp (maxSteps := 1000000) (disch := omega) only [WS, List.getElem_cons_zero, List.getElem_cons_succ, Option.isNone_some, Option.isNone_none, List.getD_cons_zero, List.getD_cons_succ, I.at, atL, atO, atP, evp, evs, retV, ↓reduceIte, Nat.reduceEqDiff, reduceCtorEq, AS, hro.Xld (show 0 < _ by simp), hro.Xld (show 3 < _ by simp), show decide ((3 : Int) = 3) = true from rfl]
  refine X_call0 ((afft_ForwardRows_spec w5 v hs (RL R hs.length) a hR hM (by omega) (fun i hi => by rw [RL_get hi]; exact h.len i (by omega))).mono ?_)
  intro v6 w6 hcase6
  have hVl : ∀ i, i < hs.length → (VW i).length ≤ 70368744175616 := fun i hi => by
    rcases hcases with ⟨k', q2, -, hlk', -, hq2, -, hV2, -⟩ | ⟨hVR, -⟩
    · rw [hV2 i (by omega), ← hq2 i (by omega)]
      exact h.len i (by omega)
    · rw [hVR i (by omega)]
      exact h.len i (by omega)
  have key : ∃ RR, Rot w1.heap.size F v hs (fun _ => tl3) RR w6 ∧ (∀ i, i < hs.length → RR.getD i [] = VW i) ∧ v6 = .int .i64 e := by
    rw [← ln] at hcases
    have hPk : ∀ k : Nat, k ≤ 16 → hs.length = 2 ^ k → isP (hs.length : Int) = true := fun k hk e => (isP_iff _).2 ⟨k, hk, by rw [e]⟩
    rcases hcase6 with ⟨k, q, hk, hlk, hc, hq, rfl, R', hM', lR', hq', hcol⟩ | ⟨rfl, hcase6⟩
    · rcases hcases with ⟨k', q2, hk', hlk', hc', hq2, rfl, hV2, hcV⟩ | ⟨hVR, hcases⟩
      · obtain rfl : k' = k := pow2_inj (hlk'.symm.trans hlk)
        refine ⟨R', hM', fun i hi => ?_, rfl⟩
        have hik : i < 2 ^ k' := by omega
        have hqq : q = q2 := by
          have h1 := hq i hik
          rw [RL_get hi] at h1
          rw [← h1, hq2 i hik]
        refine co_ext (by rw [hq' i hik, hV2 i hik, hqq]) (Ps.ext fun c => ?_)
        have h1 := hcol i c hik
        unfold colf at h1
        rw [h1, hcV i c hik]
        exact itF_loc (n := 2 ^ k') (Nat.mod_self _) (fun x hx => by rw [RL_get (by omega)]) i hik
      · exfalso
        rcases hcases with ⟨hb, -⟩ | ⟨-, hb, -⟩ | ⟨-, -, hb, -⟩
        · rw [hPk k hk hlk] at hb; cases hb
        · exact hb ⟨q, fun i hi => by have h1 := hq i (by omega); rwa [RL_get hi] at h1⟩
        · rw [hlk, hc] at hb; cases hb
    · rcases hcases with ⟨k', q2, hk', hlk', hc', hq2, rfl, hV2, hcV⟩ | ⟨hVR, hcases⟩
      · exfalso
        rcases hcase6 with ⟨hb, -⟩ | ⟨-, hb, -⟩ | ⟨-, -, hb, -⟩
        · rw [hPk k' hk' hlk'] at hb; cases hb
        · exact hb ⟨q2, fun i hi => by rw [RL_get hi]; exact hq2 i (by omega)⟩
        · rw [hlk', hc'] at hb; cases hb
      · refine ⟨RL R hs.length, hM, fun i hi => by rw [RL_get hi]; exact (hVR i hi).symm, ?_⟩
        have hqi : (∃ q, ∀ i, i < hs.length → ((RL R hs.length).getD i []).length = q) ↔ ∃ q, ∀ i, i < hs.length → (R i).length = q := ⟨fun ⟨q, h⟩ => ⟨q, fun i hi => by have h1 := h i hi; rwa [RL_get hi] at h1⟩, fun ⟨q, h⟩ => ⟨q, fun i hi => by rw [RL_get hi]; exact h i hi⟩⟩
        rw [hqi] at hcase6
        rcases hcase6 with ⟨b1, rfl⟩ | ⟨b1, b2, rfl⟩ | ⟨b1, b2, b3, rfl⟩ <;> rcases hcases with ⟨c1, rfl⟩ | ⟨c1, c2, rfl⟩ | ⟨c1, c2, c3, rfl⟩ <;> first | rfl | (exfalso; rw [b1] at c1; exact Bool.noConfusion c1) | (exfalso; exact b2 c2) | (exfalso; exact c2 b2)
  obtain ⟨RR, hM6, hRV, rfl⟩ := key
  clear hcase6 hcases hM
  simp (maxSteps := 1000000) (disch := omega) only [WS, List.getElem_cons_zero, List.getElem_cons_succ, Option.isNone_some, Option.isNone_none, List.getD_cons_zero, List.getD_cons_succ, I.at, atL, atO, atP, evp, evs, retV, ↓reduceIte, Nat.reduceEqDiff, reduceCtorEq, AS, show ∀ e : Int, decide (e = e) = true from fun e => decide_eq_true rfl]
  refine loop_of (fun t u => t 3 = v ∧ t 4 = Fw.sub v 0 (hs.length + 1) ∧ t 5 = wa ∧ t 6 = z ∧ ∃ (i : Nat) (W : List (List (El 16))), t 9 = .int .i64 (i : Int) ∧ i ≤ hs.length ∧ Rot w1.heap.size F v hs (fun _ => tl3) W u ∧ (∀ x, x < hs.length → (W.getD x []).length = (VW x).length) ∧ ∀ x, i ≤ x → x < hs.length → W.getD x [] = VW x)
    (fun t _ => hs.length - (toI (t 9)).toNat) ⟨by simp only [WS, List.getElem_cons_zero, List.getElem_cons_succ, Option.isNone_some, Option.isNone_none, List.getD_cons_zero, List.getD_cons_succ, I.at, atL, atO, atP, evp, evs, retV, ↓reduceIte, Nat.reduceEqDiff, reduceCtorEq], by simp only [WS, List.getElem_cons_zero, List.getElem_cons_succ, Option.isNone_some, Option.isNone_none, List.getD_cons_zero, List.getD_cons_succ, I.at, atL, atO, atP, evp, evs, retV, ↓reduceIte, Nat.reduceEqDiff, reduceCtorEq], by simp only [WS, List.getElem_cons_zero, List.getElem_cons_succ, Option.isNone_some, Option.isNone_none, List.getD_cons_zero, List.getD_cons_succ, I.at, atL, atO, atP, evp, evs, retV, ↓reduceIte, Nat.reduceEqDiff, reduceCtorEq], by simp only [WS, List.getElem_cons_zero, List.getElem_cons_succ, Option.isNone_some, Option.isNone_none, List.getD_cons_zero, List.getD_cons_succ, I.at, atL, atO, atP, evp, evs, retV, ↓reduceIte, Nat.reduceEqDiff, reduceCtorEq], 0, RR, rfl, by omega, hM6, fun x hx => by rw [hRV x hx], fun x _ hx => hRV x hx⟩ ?_
  clear hM6 hRV
  rintro t u ⟨t3, t4, t5, t6, i, W, t9, hi, hM, hWl, hWV⟩
  obtain ⟨B7, sw7, A7, f7, h47⟩ := hFo _ hM.2.2.2.1
  by_cases hih : i < hs.length
  · have iW : i < hsW.length := by omega
    have iWl : i < W.length := by rw [hM.1]; exact hih
    have hlen := hWl i hih
    have hlb := hVl i hih
    have hEq := hWV i (Nat.le_refl _) hih
    have sv := hM.2.2.1.drew
    have sw := sw7.drew
    have sz := A7.sl.drew
    have sr := (hM.2.1 i hih).ow.sl.drew
    have sq := (A7.row i iW).drew
    simp (maxSteps := 1000000) (disch := omega) only [WS, List.getElem_cons_zero, List.getElem_cons_succ, Option.isNone_some, Option.isNone_none, List.getD_cons_zero, List.getD_cons_succ, I.at, atL, atO, atP, evp, evs, retV, ↓reduceIte, Nat.reduceEqDiff, reduceCtorEq, AS, t3, t4, t5, t6, t9, sw7.Xlen]
    refine WP_dops ?_
    simp (maxSteps := 1000000) (disch := omega) only [ES, List.mem_cons, List.not_mem_nil, implies_true, forall_const, WS, List.getElem_cons_zero, List.getElem_cons_succ, Option.isNone_some, Option.isNone_none, List.getD_cons_zero, List.getD_cons_succ, I.at, atL, atO, atP, evp, evs, retV, ↓reduceIte, Nat.reduceEqDiff, reduceCtorEq, AS, t3, t4, t5, t6, t9, sv.Eix hih, sv.Eld hih, sw.Eix hih, sw.Eld hih, sr.Elen, show ∀ e : Int, decide (e = e) = true from fun e => decide_eq_true rfl, sz.Eix iW, sz.Eld iW]
    refine E_call0 ((culletlaw14_alike_spec u.drew _ _ _ _ sr sq (by omega) (by omega)).mono ?_)
    rintro _ w8 ⟨rfl, hL⟩
    rw [decide_eq_true hEq]
    have sv := hL.sl sv
    have sw := hL.sl sw
    have sz := hL.sl sz
    have sr := hL.sl sr
    have sq := hL.sl sq
    simp (maxSteps := 1000000) (disch := omega) only [ES, List.mem_cons, List.not_mem_nil, implies_true, forall_const, WS, List.getElem_cons_zero, List.getElem_cons_succ, Option.isNone_some, Option.isNone_none, List.getD_cons_zero, List.getD_cons_succ, I.at, atL, atO, atP, evp, evs, retV, ↓reduceIte, Nat.reduceEqDiff, reduceCtorEq, AS, t3, t4, t5, t6, t9, sv.Eix hih, sv.Eld hih, sw.Eix hih, sw.Eld hih, sz.Eix iW, sz.Eld iW]
    refine E_call0 ((culletlaw14_alike_spec w8 _ _ _ _ sr sq (by omega) (by omega)).mono ?_)
    rintro _ w9 ⟨rfl, hL2⟩
    rw [decide_eq_true hEq]
    have hLL : Like u w9 := (Like.drew u).trans (hL.trans hL2)
    have hM9 := hR.up _ _ _ hM hLL.1
    clear sv sw sz sr sq hL hL2 hLL hM A7 f7 h47 sw7 B7
    simp (maxSteps := 1000000) (disch := omega) only [ES, List.mem_cons, List.not_mem_nil, implies_true, forall_const, WS, List.getElem_cons_zero, List.getElem_cons_succ, Option.isNone_some, Option.isNone_none, List.getD_cons_zero, List.getD_cons_succ, I.at, atL, atO, atP, evp, evs, retV, ↓reduceIte, Nat.reduceEqDiff, reduceCtorEq, AS, t3, t4, t5, t6, t9]
    refine loop_of (fun t u => t 3 = v ∧ t 4 = Fw.sub v 0 (hs.length + 1) ∧ t 5 = wa ∧ t 6 = z ∧ t 9 = .int .i64 (i : Int) ∧ ∃ (j : Nat) (l : List (El 16)), t 10 = .int .i64 (j : Int) ∧ j ≤ l.length ∧ Rot w1.heap.size F v hs (fun _ => tl3) (W.set i l) u ∧ l.length = (VW i).length)
      (fun t _ => (VW i).length - (toI (t 10)).toNat) ⟨by simp only [WS, List.getElem_cons_zero, List.getElem_cons_succ, Option.isNone_some, Option.isNone_none, List.getD_cons_zero, List.getD_cons_succ, I.at, atL, atO, atP, evp, evs, retV, ↓reduceIte, Nat.reduceEqDiff, reduceCtorEq]; exact t3, by simp only [WS, List.getElem_cons_zero, List.getElem_cons_succ, Option.isNone_some, Option.isNone_none, List.getD_cons_zero, List.getD_cons_succ, I.at, atL, atO, atP, evp, evs, retV, ↓reduceIte, Nat.reduceEqDiff, reduceCtorEq]; exact t4, by simp only [WS, List.getElem_cons_zero, List.getElem_cons_succ, Option.isNone_some, Option.isNone_none, List.getD_cons_zero, List.getD_cons_succ, I.at, atL, atO, atP, evp, evs, retV, ↓reduceIte, Nat.reduceEqDiff, reduceCtorEq]; exact t5, by simp only [WS, List.getElem_cons_zero, List.getElem_cons_succ, Option.isNone_some, Option.isNone_none, List.getD_cons_zero, List.getD_cons_succ, I.at, atL, atO, atP, evp, evs, retV, ↓reduceIte, Nat.reduceEqDiff, reduceCtorEq]; exact t6, by simp only [WS, List.getElem_cons_zero, List.getElem_cons_succ, Option.isNone_some, Option.isNone_none, List.getD_cons_zero, List.getD_cons_succ, I.at, atL, atO, atP, evp, evs, retV, ↓reduceIte, Nat.reduceEqDiff, reduceCtorEq]; exact t9, 0, W.getD i [], rfl, by omega, by rw [set_getD W iWl]; exact hM9, hlen⟩ ?_
    clear t3 t4 t5 t6 t9 hM9
    rintro t u ⟨t3, t4, t5, t6, t9, j, l, t10, hj, hM, hl⟩
    obtain ⟨B7, sw7, A7, f7, h47⟩ := hFo _ hM.2.2.2.1
    have gl : (W.set i l).getD i [] = l := by rw [getD_setL W iWl, if_pos rfl]
    have sr := (hM.2.1 i hih).ow.sl
    rw [gl] at sr
    by_cases hjl : j < l.length
    · have Wi := hR.wr W i hih (by rw [hM.1.symm, List.length_set])
      obtain ⟨y, hy⟩ := u16_elx ((l[j].v.toNat : Int) + 1)
      simp (maxSteps := 1000000) (disch := omega) only [WS, List.getElem_cons_zero, List.getElem_cons_succ, Option.isNone_some, Option.isNone_none, List.getD_cons_zero, List.getD_cons_succ, I.at, atL, atO, atP, evp, evs, retV, ↓reduceIte, Nat.reduceEqDiff, reduceCtorEq, AS, t3, t4, t5, t6, t9, t10, sw7.Xix hih, sw7.Xld hih, sr.Xlen, hM.2.2.1.Xix hih, hM.2.2.1.Xld hih, sr.Xix hjl, sr.Xld hjl, cell_e16, hy]
      refine Wi.Xst hM hjl y fun u2 hM2 hg2 => ?_
      obtain ⟨-, sw2, -, -, -⟩ := hFo _ hM2.2.2.2.1
      have sr2 := (hM2.2.1 i hih).ow.sl.drew
      rw [getD_setL W iWl, if_pos rfl] at sr2
      have sv2 := hM2.2.2.1.drew
      have sw2 := sw2.drew
      have jl2 : j < (l.set j y).length := by rw [List.length_set]; exact hjl
      simp (maxSteps := 1000000) (disch := omega) only [WS, List.getElem_cons_zero, List.getElem_cons_succ, Option.isNone_some, Option.isNone_none, List.getD_cons_zero, List.getD_cons_succ, I.at, atL, atO, atP, evp, evs, retV, ↓reduceIte, Nat.reduceEqDiff, reduceCtorEq, AS, t3, t4, t5, t6, t9, t10]
      refine WP_dops ?_
      simp (maxSteps := 1000000) (disch := omega) only [ES, List.mem_cons, List.not_mem_nil, implies_true, forall_const, WS, List.getElem_cons_zero, List.getElem_cons_succ, Option.isNone_some, Option.isNone_none, List.getD_cons_zero, List.getD_cons_succ, I.at, atL, atO, atP, evp, evs, retV, ↓reduceIte, Nat.reduceEqDiff, reduceCtorEq, AS, t3, t4, t5, t6, t9, t10, sv2.Eix hih, sv2.Eld hih, sw2.Eix hih, sw2.Eld hih, sr2.Eix jl2, sr2.Eld jl2, cell_e16, show ∀ e : Int, decide (e = e) = true from fun e => decide_eq_true rfl]
      exact ⟨⟨j + 1, _, rfl, by omega, hR.up _ _ _ hM2 (bel_drew u2), by rw [List.length_set]; exact hl⟩, by omega⟩
    · simp (maxSteps := 1000000) (disch := omega) only [WS, List.getElem_cons_zero, List.getElem_cons_succ, Option.isNone_some, Option.isNone_none, List.getD_cons_zero, List.getD_cons_succ, I.at, atL, atO, atP, evp, evs, retV, ↓reduceIte, Nat.reduceEqDiff, reduceCtorEq, AS, t3, t4, t5, t6, t9, t10, sw7.Xix hih, sw7.Xld hih, sr.Xlen]
      refine ⟨⟨i + 1, _, rfl, by omega, hM, fun x hx => ?_, fun x hx1 hx => ?_⟩, by omega⟩
      · rw [getD_setL W iWl]
        by_cases hxi : x = i
        · rw [if_pos hxi, hxi]; exact hl
        · rw [if_neg hxi]; exact hWl x hx
      · rw [getD_setL W iWl, if_neg (by omega)]
        exact hWV x (by omega) hx
  · obtain rfl : i = hs.length := by omega
    simp (maxSteps := 1000000) (disch := omega) only [WS, List.getElem_cons_zero, List.getElem_cons_succ, Option.isNone_some, Option.isNone_none, List.getD_cons_zero, List.getD_cons_succ, I.at, atL, atO, atP, evp, evs, retV, ↓reduceIte, Nat.reduceEqDiff, reduceCtorEq, AS, t3, t4, t5, t6, t9, sw7.Xlen]
    refine X_call0 ((culletlaw14_kept_spec u w1.heap.size wa _ hs h4 (fun i => W.getD i []) sw7 f7 hM.2.1 h47 (by omega) (fun i hi => by rw [hWl i hi]; exact hVl i hi)).mono ?_)
    rintro _ u2 ⟨rfl, rfl⟩
    simp (maxSteps := 1000000) (disch := omega) only [WS, List.getElem_cons_zero, List.getElem_cons_succ, Option.isNone_some, Option.isNone_none, List.getD_cons_zero, List.getD_cons_succ, I.at, atL, atO, atP, evp, evs, retV, ↓reduceIte, Nat.reduceEqDiff, reduceCtorEq, AS]
    exact B7
end Go.Proofs.Ytpmfeaajpjjfiaa.Fw

set_option linter.unusedVariables false
set_option linter.unusedSimpArgs false
set_option maxRecDepth 100000
set_option maxHeartbeats 1000000
namespace Go.Proofs.Ytpmfeaajpjjfiaa.Fw
open Go Go.Fw Go.Proofs
attribute [local irreducible] stepI

end Go.Proofs.Ytpmfeaajpjjfiaa.Fw
namespace Go.Proofs.Ytpmfeaajpjjfiaa.Fw
open Go Go.Fw
set_option maxHeartbeats 4000000 in
theorem culletlaw14_inPlaceI_spec (w : World) (V Rs : Value) (hin : List Hd) (R : Nat → List (El 16)) (a n : Int) (h : Rin w Rs hin R) (hs1 : scal V = true) (hs2 : scal Rs = true) :
    CallV Try.prog 57 [.agg #[.int .i64 4, V, Rs, .int .i64 a, .int .i64 n]] w fun v w' => v = .bool true ∧ RowKit.Below w.heap.size w w' := by
  have hnum := h.num
  refine run_culletlaw14_inPlace (by simp) ?_
  simp only [c_culletlaw14_inPlace, WS, List.getElem_cons_zero, List.getElem_cons_succ, Option.isNone_some, Option.isNone_none, List.getD_cons_zero, List.getD_cons_succ, I.at, atL, atO, atP, evp, evs, retV, ↓reduceIte, Nat.reduceEqDiff, reduceCtorEq]
  refine X_box fun bo w1 hro hbo hB => ?_
  have hro : Row w1 bo [.int .i64 4, V, Rs, .int .i64 a, .int .i64 n] := hro
  have B := hB
  have h1 := h.up hB
  clear hB
  simp (maxSteps := 1000000) (disch := omega) only [WS, List.getElem_cons_zero, List.getElem_cons_succ, Option.isNone_some, Option.isNone_none, List.getD_cons_zero, List.getD_cons_succ, I.at, atL, atO, atP, evp, evs, retV, ↓reduceIte, Nat.reduceEqDiff, reduceCtorEq, AS, hro.Xld (show 2 < _ by simp)]
  refine X_call0 ((culletlaw14_laidRows_spec w1 Rs hin R h1).mono ?_)
  rintro v w2 ⟨hB, hs, h4, ln, hap, hT, hTr, h74, h4a, h4b⟩
  have h2 := h1.up hB
  have B1s := B.size
  have S12 := hB.size
  have hro := hro.up hB
  have B := B.trans (hB.mono B.size)
  clear hB
  have hv := hT.ow.sl
  have lv : 1 ≤ hs.length + ([h4] : List Hd).length := by simp
  have hle : hs.length + 1 ≤ hs.length + ([h4] : List Hd).length := by simp
  have hfull : Sl w2 (Fw.sub v 0 (hs.length + 1)) (hs ++ [h4]) := hT.whole.sl
  simp (maxSteps := 1000000) (disch := omega) only [WS, List.getElem_cons_zero, List.getElem_cons_succ, Option.isNone_some, Option.isNone_none, List.getD_cons_zero, List.getD_cons_succ, I.at, atL, atO, atP, evp, evs, retV, ↓reduceIte, Nat.reduceEqDiff, reduceCtorEq, AS, hv.Xlen, hT.XslcHi hle]
  refine X_bslE fun p w3 op hB => ?_
  have hv3 := hv.up hB
  simp (maxSteps := 1000000) (disch := omega) only [WS, List.getElem_cons_zero, List.getElem_cons_succ, Option.isNone_some, Option.isNone_none, List.getD_cons_zero, List.getD_cons_succ, I.at, atL, atO, atP, evp, evs, retV, ↓reduceIte, Nat.reduceEqDiff, reduceCtorEq, AS]
  refine op.Xapp hv3 hB hB.size (by simp only [maxBytes]; omega) (by decide) (by omega) fun wa w4 ow hB S34 => ?_
  clear op hv3
  have h4' := h2.up hB
  have wab : ∀ b, Fw.blk wa = some b → w2.heap.size ≤ b := fun b hb => (ow.blk b hb).1
  have hfull := hfull.up hB
  have hv := hv.up hB
  have hTr4 : ∀ i (hi : i < hs.length), OwT w1.heap.size w4 (Cell.v hs[i]) (R i) tl3 := fun i hi => (hTr i hi).up hB
  have hrb : ∀ i (hi : i < hs.length) b, Fw.blk (Cell.v hs[i]) = some b → b < w2.heap.size := fun i hi b hb => by
    obtain ⟨c, hc, -, hlt⟩ := (hTr i hi).blk
    rw [hc] at hb; cases hb; exact hlt
  have h74 := h74.sl.up hB
  have S4 := hB.size
  have h4'' := h4'
  have hro := hro.up hB
  have B := B.trans (hB.mono B.size)
  clear hB
  clear hTr
  have ow := ow.sl
  simp (maxSteps := 1000000) (disch := omega) only [WS, List.getElem_cons_zero, List.getElem_cons_succ, Option.isNone_some, Option.isNone_none, List.getD_cons_zero, List.getD_cons_succ, I.at, atL, atO, atP, evp, evs, retV, ↓reduceIte, Nat.reduceEqDiff, reduceCtorEq, AS, hro.Xld (show 2 < _ by simp), hro.Xld (show 3 < _ by simp), hro.Xld (show 0 < _ by simp), show decide ((4 : Int) = 4) = true from rfl]
  refine X_call0 ((culletref14_RowsI_spec w4 Rs hin R a h4'').mono ?_)
  rintro _ w5 ⟨hB, z, hsW, VW, e, rfl, lW, hA, hcases⟩
  have hfull := hfull.up hB
  have hv := hv.up hB
  have hTr5 : ∀ i (hi : i < hs.length), OwT w1.heap.size w5 (Cell.v hs[i]) (R i) tl3 := fun i hi => (hTr4 i hi).up hB
  have h74 := h74.up hB
  have ow := ow.up hB
  have S5 := hB.size
  have hro := hro.up hB
  have B := B.trans (hB.mono B.size)
  clear hB
  clear hTr4
  -- the frame
  generalize hF : (fun u : World => RowKit.Below w.heap.size w u ∧ Sl u wa hs ∧ Ans w4 u z hsW VW ∧ Sl u (Fw.sub v 0 (hs.length + 1)) (hs ++ [h4]) ∧ Sl u (Cell.v h4) [(⟨74⟩ : El 16)]) = F
  have hF5 : F w5 := by rw [← hF]; exact ⟨B, ow, hA, hfull, h74⟩
  have hFrm : Frm F (fun b => ∃ i, ∃ hi : i < hs.length, Fw.blk (Cell.v hs[i]) = some b) := by
    rw [← hF]
    refine ⟨fun u u' b hu hb hg => ?_, fun u u' hu hB => ⟨hu.1.trans (hB.mono hu.1.size), hu.2.1.up hB, hu.2.2.1.up hB, hu.2.2.2.1.up hB, hu.2.2.2.2.up hB⟩⟩
    obtain ⟨u1, u2, u3, u4, u5⟩ := hu
    obtain ⟨i, hi, hb⟩ := hb
    have hlt := hrb i hi b hb
    have hge : w.heap.size ≤ b := by
      obtain ⟨c, hc, hle, -⟩ := (hTr5 i hi).blk
      rw [hc] at hb; cases hb; omega
    refine ⟨u1.grown hg u1.size fun c hc => by cases hc; exact hge, u2.grown hg (Or.inl fun e => by have := wab b e; omega), ⟨u3.sl.grown hg (Or.inl fun e => by have := u3.vb b e; omega), fun x hx => (u3.row x hx).grown hg (Or.inl fun e => by have := u3.nb x hx b e; omega), u3.nb, u3.vb⟩, u4.grown hg (Or.inl fun e => ?_), u5.grown hg (Or.inl fun e => ?_)⟩
    · rw [sub_blk] at e
      exact hap.list i hi b hb e
    · exact h4a i hi b hb e
  have hFo : ∀ u, F u → RowKit.Below w.heap.size w u ∧ Sl u wa hs ∧ Ans w4 u z hsW VW ∧ Sl u (Fw.sub v 0 (hs.length + 1)) (hs ++ [h4]) ∧ Sl u (Cell.v h4) [(⟨74⟩ : El 16)] := fun u hu => by rw [← hF] at hu; exact hu
  clear hF
  have hDb : ∀ i (hi : i < hs.length) b, Fw.blk (Cell.v hs[i]) = some b → ∃ j, ∃ hj : j < hs.length, Fw.blk (Cell.v hs[j]) = some b := fun i hi b hb => ⟨i, hi, hb⟩
  have hR := Rot.rws (α := El 16) (B := w1.heap.size) (Tm := fun _ => tl3) hap hFrm hDb
  have hM : Rot w1.heap.size F v hs (fun _ => tl3) (RL R hs.length) w5 := ⟨RL_len _ _, fun i hi => by rw [RL_get hi]; exact hTr5 i hi, hv, hF5, by omega⟩
  clear hF5 hfull hv hTr5 h74 ow B
  simp (maxSteps := 1000000) (disch := omega) only [WS, List.getElem_cons_zero, List.getElem_cons_succ, Option.isNone_some, Option.isNone_none, List.getD_cons_zero, List.getD_cons_succ, I.at, atL, atO, atP, evp, evs, retV, ↓reduceIte, Nat.reduceEqDiff, reduceCtorEq, AS, hro.Xld (show 0 < _ by simp), hro.Xld (show 3 < _ by simp), show decide ((4 : Int) = 3) = false from rfl]
  refine X_call0 ((afft_InverseRows_spec w5 v hs (RL R hs.length) a hR hM (by omega) (fun i hi => by rw [RL_get hi]; exact h.len i (by omega))).mono ?_)
  intro v6 w6 hcase6
  have hVl : ∀ i, i < hs.length → (VW i).length ≤ 70368744175616 := fun i hi => by
    rcases hcases with ⟨k', q2, -, hlk', -, hq2, -, hV2, -⟩ | ⟨hVR, -⟩
    · rw [hV2 i (by omega), ← hq2 i (by omega)]
      exact h.len i (by omega)
    · rw [hVR i (by omega)]
      exact h.len i (by omega)
  have key : ∃ RR, Rot w1.heap.size F v hs (fun _ => tl3) RR w6 ∧ (∀ i, i < hs.length → RR.getD i [] = VW i) ∧ v6 = .int .i64 e := by
    rw [← ln] at hcases
    have hPk : ∀ k : Nat, k ≤ 16 → hs.length = 2 ^ k → isP (hs.length : Int) = true := fun k hk e => (isP_iff _).2 ⟨k, hk, by rw [e]⟩
    rcases hcase6 with ⟨k, q, hk, hlk, hc, hq, rfl, R', hM', lR', hq', hcol⟩ | ⟨rfl, hcase6⟩
    · rcases hcases with ⟨k', q2, hk', hlk', hc', hq2, rfl, hV2, hcV⟩ | ⟨hVR, hcases⟩
      · obtain rfl : k' = k := pow2_inj (hlk'.symm.trans hlk)
        refine ⟨R', hM', fun i hi => ?_, rfl⟩
        have hik : i < 2 ^ k' := by omega
        have hqq : q = q2 := by
          have h1 := hq i hik
          rw [RL_get hi] at h1
          rw [← h1, hq2 i hik]
        refine co_ext (by rw [hq' i hik, hV2 i hik, hqq]) (Ps.ext fun c => ?_)
        have h1 := hcol i c hik
        unfold colf at h1
        rw [h1, hcV i c hik]
        exact itI_loc (n := 2 ^ k') (Nat.mod_self _) (fun x hx => by rw [RL_get (by omega)]) i hik
      · exfalso
        rcases hcases with ⟨hb, -⟩ | ⟨-, hb, -⟩ | ⟨-, -, hb, -⟩
        · rw [hPk k hk hlk] at hb; cases hb
        · exact hb ⟨q, fun i hi => by have h1 := hq i (by omega); rwa [RL_get hi] at h1⟩
        · rw [hlk, hc] at hb; cases hb
    · rcases hcases with ⟨k', q2, hk', hlk', hc', hq2, rfl, hV2, hcV⟩ | ⟨hVR, hcases⟩
      · exfalso
        rcases hcase6 with ⟨hb, -⟩ | ⟨-, hb, -⟩ | ⟨-, -, hb, -⟩
        · rw [hPk k' hk' hlk'] at hb; cases hb
        · exact hb ⟨q2, fun i hi => by rw [RL_get hi]; exact hq2 i (by omega)⟩
        · rw [hlk', hc'] at hb; cases hb
      · refine ⟨RL R hs.length, hM, fun i hi => by rw [RL_get hi]; exact (hVR i hi).symm, ?_⟩
        have hqi : (∃ q, ∀ i, i < hs.length → ((RL R hs.length).getD i []).length = q) ↔ ∃ q, ∀ i, i < hs.length → (R i).length = q := ⟨fun ⟨q, h⟩ => ⟨q, fun i hi => by have h1 := h i hi; rwa [RL_get hi] at h1⟩, fun ⟨q, h⟩ => ⟨q, fun i hi => by rw [RL_get hi]; exact h i hi⟩⟩
        rw [hqi] at hcase6
        rcases hcase6 with ⟨b1, rfl⟩ | ⟨b1, b2, rfl⟩ | ⟨b1, b2, b3, rfl⟩ <;> rcases hcases with ⟨c1, rfl⟩ | ⟨c1, c2, rfl⟩ | ⟨c1, c2, c3, rfl⟩ <;> first | rfl | (exfalso; rw [b1] at c1; exact Bool.noConfusion c1) | (exfalso; exact b2 c2) | (exfalso; exact c2 b2)
  obtain ⟨RR, hM6, hRV, rfl⟩ := key
  clear hcase6 hcases hM
  simp (maxSteps := 1000000) (disch := omega) only [WS, List.getElem_cons_zero, List.getElem_cons_succ, Option.isNone_some, Option.isNone_none, List.getD_cons_zero, List.getD_cons_succ, I.at, atL, atO, atP, evp, evs, retV, ↓reduceIte, Nat.reduceEqDiff, reduceCtorEq, AS, show ∀ e : Int, decide (e = e) = true from fun e => decide_eq_true rfl]
  refine loop_of (fun t u => t 3 = v ∧ t 4 = Fw.sub v 0 (hs.length + 1) ∧ t 5 = wa ∧ t 6 = z ∧ ∃ (i : Nat) (W : List (List (El 16))), t 9 = .int .i64 (i : Int) ∧ i ≤ hs.length ∧ Rot w1.heap.size F v hs (fun _ => tl3) W u ∧ (∀ x, x < hs.length → (W.getD x []).length = (VW x).length) ∧ ∀ x, i ≤ x → x < hs.length → W.getD x [] = VW x)
    (fun t _ => hs.length - (toI (t 9)).toNat) ⟨by simp only [WS, List.getElem_cons_zero, List.getElem_cons_succ, Option.isNone_some, Option.isNone_none, List.getD_cons_zero, List.getD_cons_succ, I.at, atL, atO, atP, evp, evs, retV, ↓reduceIte, Nat.reduceEqDiff, reduceCtorEq], by simp only [WS, List.getElem_cons_zero, List.getElem_cons_succ, Option.isNone_some, Option.isNone_none, List.getD_cons_zero, List.getD_cons_succ, I.at, atL, atO, atP, evp, evs, retV, ↓reduceIte, Nat.reduceEqDiff, reduceCtorEq], by simp only [WS, List.getElem_cons_zero, List.getElem_cons_succ, Option.isNone_some, Option.isNone_none, List.getD_cons_zero, List.getD_cons_succ, I.at, atL, atO, atP, evp, evs, retV, ↓reduceIte, Nat.reduceEqDiff, reduceCtorEq], by simp only [WS, List.getElem_cons_zero, List.getElem_cons_succ, Option.isNone_some, Option.isNone_none, List.getD_cons_zero, List.getD_cons_succ, I.at, atL, atO, atP, evp, evs, retV, ↓reduceIte, Nat.reduceEqDiff, reduceCtorEq], 0, RR, rfl, by omega, hM6, fun x hx => by rw [hRV x hx], fun x _ hx => hRV x hx⟩ ?_
  clear hM6 hRV
  rintro t u ⟨t3, t4, t5, t6, i, W, t9, hi, hM, hWl, hWV⟩
  obtain ⟨B7, sw7, A7, f7, h47⟩ := hFo _ hM.2.2.2.1
  by_cases hih : i < hs.length
  · have iW : i < hsW.length := by omega
    have iWl : i < W.length := by rw [hM.1]; exact hih
    have hlen := hWl i hih
    have hlb := hVl i hih
    have hEq := hWV i (Nat.le_refl _) hih
    have sv := hM.2.2.1.drew
    have sw := sw7.drew
    have sz := A7.sl.drew
    have sr := (hM.2.1 i hih).ow.sl.drew
    have sq := (A7.row i iW).drew
    simp (maxSteps := 1000000) (disch := omega) only [WS, List.getElem_cons_zero, List.getElem_cons_succ, Option.isNone_some, Option.isNone_none, List.getD_cons_zero, List.getD_cons_succ, I.at, atL, atO, atP, evp, evs, retV, ↓reduceIte, Nat.reduceEqDiff, reduceCtorEq, AS, t3, t4, t5, t6, t9, sw7.Xlen]
    refine WP_dops ?_
    simp (maxSteps := 1000000) (disch := omega) only [ES, List.mem_cons, List.not_mem_nil, implies_true, forall_const, WS, List.getElem_cons_zero, List.getElem_cons_succ, Option.isNone_some, Option.isNone_none, List.getD_cons_zero, List.getD_cons_succ, I.at, atL, atO, atP, evp, evs, retV, ↓reduceIte, Nat.reduceEqDiff, reduceCtorEq, AS, t3, t4, t5, t6, t9, sv.Eix hih, sv.Eld hih, sw.Eix hih, sw.Eld hih, sr.Elen, show ∀ e : Int, decide (e = e) = true from fun e => decide_eq_true rfl, sz.Eix iW, sz.Eld iW]
    refine E_call0 ((culletlaw14_alike_spec u.drew _ _ _ _ sr sq (by omega) (by omega)).mono ?_)
    rintro _ w8 ⟨rfl, hL⟩
    rw [decide_eq_true hEq]
    have sv := hL.sl sv
    have sw := hL.sl sw
    have sz := hL.sl sz
    have sr := hL.sl sr
    have sq := hL.sl sq
    simp (maxSteps := 1000000) (disch := omega) only [ES, List.mem_cons, List.not_mem_nil, implies_true, forall_const, WS, List.getElem_cons_zero, List.getElem_cons_succ, Option.isNone_some, Option.isNone_none, List.getD_cons_zero, List.getD_cons_succ, I.at, atL, atO, atP, evp, evs, retV, ↓reduceIte, Nat.reduceEqDiff, reduceCtorEq, AS, t3, t4, t5, t6, t9, sv.Eix hih, sv.Eld hih, sw.Eix hih, sw.Eld hih, sz.Eix iW, sz.Eld iW]
    refine E_call0 ((culletlaw14_alike_spec w8 _ _ _ _ sr sq (by omega) (by omega)).mono ?_)
    rintro _ w9 ⟨rfl, hL2⟩
    rw [decide_eq_true hEq]
    have hLL : Like u w9 := (Like.drew u).trans (hL.trans hL2)
    have hM9 := hR.up _ _ _ hM hLL.1
    clear sv sw sz sr sq hL hL2 hLL hM A7 f7 h47 sw7 B7
    simp (maxSteps := 1000000) (disch := omega) only [ES, List.mem_cons, List.not_mem_nil, implies_true, forall_const, WS, List.getElem_cons_zero, List.getElem_cons_succ, Option.isNone_some, Option.isNone_none, List.getD_cons_zero, List.getD_cons_succ, I.at, atL, atO, atP, evp, evs, retV, ↓reduceIte, Nat.reduceEqDiff, reduceCtorEq, AS, t3, t4, t5, t6, t9]
    refine loop_of (fun t u => t 3 = v ∧ t 4 = Fw.sub v 0 (hs.length + 1) ∧ t 5 = wa ∧ t 6 = z ∧ t 9 = .int .i64 (i : Int) ∧ ∃ (j : Nat) (l : List (El 16)), t 10 = .int .i64 (j : Int) ∧ j ≤ l.length ∧ Rot w1.heap.size F v hs (fun _ => tl3) (W.set i l) u ∧ l.length = (VW i).length)
      (fun t _ => (VW i).length - (toI (t 10)).toNat) ⟨by simp only [WS, List.getElem_cons_zero, List.getElem_cons_succ, Option.isNone_some, Option.isNone_none, List.getD_cons_zero, List.getD_cons_succ, I.at, atL, atO, atP, evp, evs, retV, ↓reduceIte, Nat.reduceEqDiff, reduceCtorEq]; exact t3, by simp only [WS, List.getElem_cons_zero, List.getElem_cons_succ, Option.isNone_some, Option.isNone_none, List.getD_cons_zero, List.getD_cons_succ, I.at, atL, atO, atP, evp, evs, retV, ↓reduceIte, Nat.reduceEqDiff, reduceCtorEq]; exact t4, by simp only [WS, List.getElem_cons_zero, List.getElem_cons_succ, Option.isNone_some, Option.isNone_none, List.getD_cons_zero, List.getD_cons_succ, I.at, atL, atO, atP, evp, evs, retV, ↓reduceIte, Nat.reduceEqDiff, reduceCtorEq]; exact t5, by simp only [WS, List.getElem_cons_zero, List.getElem_cons_succ, Option.isNone_some, Option.isNone_none, List.getD_cons_zero, List.getD_cons_succ, I.at, atL, atO, atP, evp, evs, retV, ↓reduceIte, Nat.reduceEqDiff, reduceCtorEq]; exact t6, by simp only [WS, List.getElem_cons_zero, List.getElem_cons_succ, Option.isNone_some, Option.isNone_none, List.getD_cons_zero, List.getD_cons_succ, I.at, atL, atO, atP, evp, evs, retV, ↓reduceIte, Nat.reduceEqDiff, reduceCtorEq]; exact t9, 0, W.getD i [], rfl, by omega, by rw [set_getD W iWl]; exact hM9, hlen⟩ ?_
    clear t3 t4 t5 t6 t9 hM9
    rintro t u ⟨t3, t4, t5, t6, t9, j, l, t10, hj, hM, hl⟩
    obtain ⟨B7, sw7, A7, f7, h47⟩ := hFo _ hM.2.2.2.1
    have gl : (W.set i l).getD i [] = l := by rw [getD_setL W iWl, if_pos rfl]
    have sr := (hM.2.1 i hih).ow.sl
    rw [gl] at sr
    by_cases hjl : j < l.length
    · have Wi := hR.wr W i hih (by rw [hM.1.symm, List.length_set])
      obtain ⟨y, hy⟩ := u16_elx ((l[j].v.toNat : Int) + 1)
      simp (maxSteps := 1000000) (disch := omega) only [WS, List.getElem_cons_zero, List.getElem_cons_succ, Option.isNone_some, Option.isNone_none, List.getD_cons_zero, List.getD_cons_succ, I.at, atL, atO, atP, evp, evs, retV, ↓reduceIte, Nat.reduceEqDiff, reduceCtorEq, AS, t3, t4, t5, t6, t9, t10, sw7.Xix hih, sw7.Xld hih, sr.Xlen, hM.2.2.1.Xix hih, hM.2.2.1.Xld hih, sr.Xix hjl, sr.Xld hjl, cell_e16, hy]
      refine Wi.Xst hM hjl y fun u2 hM2 hg2 => ?_
      obtain ⟨-, sw2, -, -, -⟩ := hFo _ hM2.2.2.2.1
      have sr2 := (hM2.2.1 i hih).ow.sl.drew
      rw [getD_setL W iWl, if_pos rfl] at sr2
      have sv2 := hM2.2.2.1.drew
      have sw2 := sw2.drew
      have jl2 : j < (l.set j y).length := by rw [List.length_set]; exact hjl
      simp (maxSteps := 1000000) (disch := omega) only [WS, List.getElem_cons_zero, List.getElem_cons_succ, Option.isNone_some, Option.isNone_none, List.getD_cons_zero, List.getD_cons_succ, I.at, atL, atO, atP, evp, evs, retV, ↓reduceIte, Nat.reduceEqDiff, reduceCtorEq, AS, t3, t4, t5, t6, t9, t10]
      refine WP_dops ?_
      simp (maxSteps := 1000000) (disch := omega) only [ES, List.mem_cons, List.not_mem_nil, implies_true, forall_const, WS, List.getElem_cons_zero, List.getElem_cons_succ, Option.isNone_some, Option.isNone_none, List.getD_cons_zero, List.getD_cons_succ, I.at, atL, atO, atP, evp, evs, retV, ↓reduceIte, Nat.reduceEqDiff, reduceCtorEq, AS, t3, t4, t5, t6, t9, t10, sv2.Eix hih, sv2.Eld hih, sw2.Eix hih, sw2.Eld hih, sr2.Eix jl2, sr2.Eld jl2, cell_e16, show ∀ e : Int, decide (e = e) = true from fun e => decide_eq_true rfl]
      exact ⟨⟨j + 1, _, rfl, by omega, hR.up _ _ _ hM2 (bel_drew u2), by rw [List.length_set]; exact hl⟩, by omega⟩
    · simp (maxSteps := 1000000) (disch := omega) only [WS, List.getElem_cons_zero, List.getElem_cons_succ, Option.isNone_some, Option.isNone_none, List.getD_cons_zero, List.getD_cons_succ, I.at, atL, atO, atP, evp, evs, retV, ↓reduceIte, Nat.reduceEqDiff, reduceCtorEq, AS, t3, t4, t5, t6, t9, t10, sw7.Xix hih, sw7.Xld hih, sr.Xlen]
      refine ⟨⟨i + 1, _, rfl, by omega, hM, fun x hx => ?_, fun x hx1 hx => ?_⟩, by omega⟩
      · rw [getD_setL W iWl]
        by_cases hxi : x = i
        · rw [if_pos hxi, hxi]; exact hl
        · rw [if_neg hxi]; exact hWl x hx
      · rw [getD_setL W iWl, if_neg (by omega)]
        exact hWV x (by omega) hx
  · obtain rfl : i = hs.length := by omega
    simp (maxSteps := 1000000) (disch := omega) only [WS, List.getElem_cons_zero, List.getElem_cons_succ, Option.isNone_some, Option.isNone_none, List.getD_cons_zero, List.getD_cons_succ, I.at, atL, atO, atP, evp, evs, retV, ↓reduceIte, Nat.reduceEqDiff, reduceCtorEq, AS, t3, t4, t5, t6, t9, sw7.Xlen]
    refine X_call0 ((culletlaw14_kept_spec u w1.heap.size wa _ hs h4 (fun i => W.getD i []) sw7 f7 hM.2.1 h47 (by omega) (fun i hi => by rw [hWl i hi]; exact hVl i hi)).mono ?_)
    rintro _ u2 ⟨rfl, rfl⟩
    simp (maxSteps := 1000000) (disch := omega) only [WS, List.getElem_cons_zero, List.getElem_cons_succ, Option.isNone_some, Option.isNone_none, List.getD_cons_zero, List.getD_cons_succ, I.at, atL, atO, atP, evp, evs, retV, ↓reduceIte, Nat.reduceEqDiff, reduceCtorEq, AS]
    exact B7
end Go.Proofs.Ytpmfeaajpjjfiaa.Fw
