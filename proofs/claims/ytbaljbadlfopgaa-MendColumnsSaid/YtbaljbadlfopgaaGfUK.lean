import Derived.Test.YtbaljbadlfopgaaProg
import Derived.Test.YtbaljbadlfopgaaFwTK
import Derived.Test.YtbaljbadlfopgaaGfGK
import Derived.Test.YtbaljbadlfopgaaGfXK
set_option linter.all false
set_option linter.unusedVariables false
set_option linter.unusedSimpArgs false
set_option maxRecDepth 100000
set_option maxHeartbeats 1000000
namespace Go.Proofs.Ytbaljbadlfopgaa.Fw
open Go Go.Fw Go.Proofs
attribute [local irreducible] stepI
def c_mend_decoder_near : C := .seq (.ops [⟨0, (some 4), none, .mov (.c (.slice none 0 0)), []⟩, ⟨1, (some 5), none, .mov (.c (.slice none 0 0)), []⟩, ⟨2, (some 6), none, .mov (.c (.bool false)), []⟩]) (.seq (.dops [⟨0, (some 17), none, .mov (.t 0), []⟩, ⟨1, (some 18), none, .nil (.t 17), []⟩, ⟨2, (some 19), none, .fad 0 (.t 18), []⟩, ⟨3, (some 20), none, .ld (.t 19), []⟩, ⟨4, (some 21), none, .mov (.t 0), []⟩, ⟨5, (some 22), none, .nil (.t 21), []⟩, ⟨6, (some 23), none, .fad 2 (.t 22), []⟩, ⟨7, (some 24), none, .ld (.t 23), []⟩, ⟨8, (some 25), none, .mov (.t 1), []⟩, ⟨9, (some 26), none, .call (.c (.func (.func 56) #[] #[])) [.t 20, .t 24, .t 25], []⟩, ⟨10, (some 16), none, .mov (.t 26), []⟩, ⟨11, (some 27), none, .ext (.t 16) 0, []⟩, ⟨12, (some 28), none, .ext (.t 16) 1, []⟩, ⟨13, (some 4), none, .mov (.t 27), []⟩]) (.seq (.seq (.ops [⟨0, (some 29), none, .mov (.t 4), []⟩, ⟨1, (some 30), none, .len (.t 29), []⟩, ⟨2, (some 31), none, .mov (.t 0), []⟩, ⟨3, (some 32), none, .nil (.t 31), []⟩, ⟨4, (some 33), none, .fad 1 (.t 32), []⟩, ⟨5, (some 34), none, .ld (.t 33), []⟩, ⟨6, (some 35), none, .bin .leq (.t 30) (.t 34), []⟩]) (.ite (.t 35) (.seq (.ops [⟨0, (some 36), none, .mov (.t 4), []⟩, ⟨1, (some 4), none, .mov (.t 36), []⟩, ⟨2, (some 5), none, .mov (.c (.slice none 0 0)), []⟩, ⟨3, (some 6), none, .mov (.c (.bool true)), []⟩]) .ret) .skip)) (.seq (.ops [⟨0, (some 37), none, .mov (.t 0), []⟩, ⟨1, (some 38), none, .nil (.t 37), []⟩, ⟨2, (some 39), none, .fad 2 (.t 38), []⟩, ⟨3, (some 40), none, .ld (.t 39), []⟩, ⟨4, (some 41), none, .len (.t 40), []⟩, ⟨5, (some 7), none, .mov (.t 41), []⟩]) (.seq (.dops [⟨0, (some 43), none, .mov (.t 0), []⟩, ⟨1, (some 44), none, .nil (.t 43), []⟩, ⟨2, (some 45), none, .fad 0 (.t 44), []⟩, ⟨3, (some 46), none, .ld (.t 45), []⟩, ⟨4, (some 47), none, .mov (.t 0), []⟩, ⟨5, (some 48), none, .nil (.t 47), []⟩, ⟨6, (some 49), none, .fad 3 (.t 48), []⟩, ⟨7, (some 50), none, .ld (.t 49), []⟩, ⟨8, (some 51), none, .mov (.t 4), []⟩, ⟨9, (some 52), none, .mov (.t 7), []⟩, ⟨10, (some 53), none, .mov (.t 0), []⟩, ⟨11, (some 54), none, .nil (.t 53), []⟩, ⟨12, (some 55), none, .fad 1 (.t 54), []⟩, ⟨13, (some 56), none, .ld (.t 55), []⟩, ⟨14, (some 57), none, .bin .add (.t 52) (.t 56), []⟩, ⟨15, (some 58), none, .bin .add (.t 57) (.c (.int .i64 1)), []⟩, ⟨16, (some 59), none, .bin .quo (.t 58) (.c (.int .i64 2)), []⟩, ⟨17, (some 60), none, .call (.c (.func (.func 90) #[] #[])) [.t 46, .t 50, .t 51, .t 59], []⟩, ⟨18, (some 42), none, .mov (.t 60), []⟩, ⟨19, (some 61), none, .ext (.t 42) 0, []⟩, ⟨20, (some 62), none, .ext (.t 42) 1, []⟩, ⟨21, (some 63), none, .ext (.t 42) 2, []⟩, ⟨22, (some 64), none, .ext (.t 42) 3, []⟩, ⟨23, (some 8), none, .mov (.t 61), []⟩, ⟨24, (some 9), none, .mov (.t 62), []⟩, ⟨25, (some 10), none, .mov (.t 63), []⟩, ⟨26, (some 11), none, .mov (.t 64), []⟩]) (.seq (.ops [⟨0, (some 66), none, .mov (.t 0), []⟩, ⟨1, (some 67), none, .nil (.t 66), []⟩, ⟨2, (some 68), none, .fad 0 (.t 67), []⟩, ⟨3, (some 69), none, .ld (.t 68), []⟩, ⟨4, (some 70), none, .mov (.t 8), []⟩, ⟨5, (some 71), none, .mov (.t 10), []⟩, ⟨6, (some 72), none, .call (.c (.func (.func 91) #[] #[])) [.t 69, .t 70, .t 71], []⟩, ⟨7, (some 65), none, .mov (.t 72), []⟩, ⟨8, (some 73), none, .ext (.t 65) 0, []⟩, ⟨9, (some 74), none, .ext (.t 65) 1, []⟩, ⟨10, (some 75), none, .ext (.t 65) 2, []⟩, ⟨11, (some 4), none, .mov (.t 73), []⟩, ⟨12, (some 12), none, .mov (.t 74), []⟩, ⟨13, (some 13), none, .mov (.t 75), []⟩]) (.seq (.seq (.ops [⟨0, (some 76), none, .mov (.t 13), []⟩, ⟨1, (some 77), none, .bin .neq (.t 76) (.c (.int .i64 0)), []⟩, ⟨2, (some 78), none, .mov (.t 77), []⟩, ⟨3, (some 79), (some (78, false)), .mov (.t 12), []⟩, ⟨4, (some 80), (some (78, false)), .len (.t 79), []⟩, ⟨5, (some 81), (some (78, false)), .bin .gtr (.t 80) (.c (.int .i64 0)), []⟩, ⟨6, (some 82), none, .pick (.t 78) (.c (.bool true)) (.t 81), []⟩, ⟨7, (some 83), none, .mov (.t 82), []⟩, ⟨8, (some 84), (some (83, false)), .mov (.t 4), []⟩, ⟨9, (some 85), (some (83, false)), .len (.t 84), []⟩, ⟨10, (some 86), (some (83, false)), .mov (.t 0), []⟩, ⟨11, (some 87), (some (83, false)), .nil (.t 86), []⟩, ⟨12, (some 88), (some (83, false)), .fad 1 (.t 87), []⟩, ⟨13, (some 89), (some (83, false)), .ld (.t 88), []⟩, ⟨14, (some 90), (some (83, false)), .bin .gtr (.t 85) (.t 89), []⟩, ⟨15, (some 91), none, .pick (.t 83) (.c (.bool true)) (.t 90), []⟩]) (.ite (.t 91) (.seq (.ops [⟨0, (some 4), none, .mov (.c (.slice none 0 0)), []⟩, ⟨1, (some 5), none, .mov (.c (.slice none 0 0)), []⟩, ⟨2, (some 6), none, .mov (.c (.bool false)), []⟩]) .ret) .skip)) (.seq (.seq (.ops [⟨0, (some 92), none, .mov (.t 0), []⟩, ⟨1, (some 93), none, .nil (.t 92), []⟩, ⟨2, (some 94), none, .fad 2 (.t 93), []⟩, ⟨3, (some 95), none, .ld (.t 94), []⟩, ⟨4, (some 96), none, .len (.t 95), []⟩, ⟨5, (some 97), none, .mov (.c (.int .i64 0)), []⟩]) (.block 0 (.loop (.seq (.ops [⟨0, (some 98), none, .bin .lss (.t 97) (.t 96), []⟩]) (.seq (.ite (.t 98) .skip (.exit 0)) (.seq (.block 1 (.seq (.ops [⟨0, (some 99), none, .mov (.t 97), []⟩, ⟨1, (some 100), none, .ixs 1 (.t 95) (.t 97), []⟩, ⟨2, (some 101), none, .ld (.t 100), []⟩, ⟨3, (some 14), none, .mov (.t 99), []⟩, ⟨4, (some 15), none, .mov (.t 101), []⟩]) (.seq (.dops [⟨0, (some 102), none, .mov (.t 0), []⟩, ⟨1, (some 103), none, .nil (.t 102), []⟩, ⟨2, (some 104), none, .fad 0 (.t 103), []⟩, ⟨3, (some 105), none, .ld (.t 104), []⟩, ⟨4, (some 106), none, .mov (.t 4), []⟩, ⟨5, (some 107), none, .mov (.t 15), []⟩, ⟨6, (some 108), none, .call (.c (.func (.func 59) #[] #[])) [.t 105, .t 106, .t 107], []⟩, ⟨7, (some 109), none, .mov (.t 1), []⟩, ⟨8, (some 110), none, .mov (.t 14), []⟩, ⟨9, (some 111), none, .ixs 1 (.t 109) (.t 110), []⟩, ⟨10, (some 112), none, .ld (.t 111), [6]⟩, ⟨11, (some 113), none, .bin .neq (.t 108) (.t 112), []⟩]) (.ite (.t 113) (.ops [⟨0, (some 114), none, .mov (.t 5), []⟩, ⟨1, (some 115), none, .mov (.t 14), []⟩, ⟨2, (some 116), none, .bsl 3 1 [.int .i64 0] [(0, (1, .t 115))], []⟩, ⟨3, (some 117), none, .app 3 8 [.int .i64 0] (.t 114) (.t 116), []⟩, ⟨4, (some 5), none, .mov (.t 117), []⟩]) .skip)))) (.ops [⟨0, (some 118), none, .bin .add (.t 97) (.c (.int .i64 1)), []⟩, ⟨1, (some 97), none, .mov (.t 118), []⟩]))))))) (.seq (.dops [⟨0, (some 119), none, .mov (.t 4), []⟩, ⟨1, (some 120), none, .mov (.t 5), []⟩, ⟨2, (some 121), none, .mov (.t 5), []⟩, ⟨3, (some 122), none, .len (.t 121), []⟩, ⟨4, (some 123), none, .mov (.t 7), []⟩, ⟨5, (some 124), none, .mov (.t 0), []⟩, ⟨6, (some 125), none, .nil (.t 124), []⟩, ⟨7, (some 126), none, .fad 1 (.t 125), []⟩, ⟨8, (some 127), none, .ld (.t 126), []⟩, ⟨9, (some 128), none, .bin .sub (.t 123) (.t 127), []⟩, ⟨10, (some 129), none, .bin .quo (.t 128) (.c (.int .i64 2)), []⟩, ⟨11, (some 130), none, .bin .leq (.t 122) (.t 129), []⟩, ⟨12, (some 4), none, .mov (.t 119), []⟩, ⟨13, (some 5), none, .mov (.t 120), []⟩, ⟨14, (some 6), none, .mov (.t 130), []⟩]) .ret))))))))
attribute [irreducible] c_mend_decoder_near
theorem run_mend_decoder_near {args : List Value} {w : World} {K : Value → World → Prop} (hn : args.length ≤ 131) (h : WP Try.prog c_mend_decoder_near (endQ [.t 4, .t 5, .t 6] K) (initT args) w) : CallV Try.prog 58 args w K :=
  call_of follows Try.func58 (by kernel_rfl) (by kernel_rfl) hn h
end Go.Proofs.Ytbaljbadlfopgaa.Fw
namespace Go.Proofs.Ytbaljbadlfopgaa.Fw
open Go Go.Fw
/-- A decoder for these points. -/
def Deco (w : World) (p : Value) (k : Nat) (xs : List (El 8)) : Prop := ∃ b r sx sa A, p = .pointer (some ⟨b, 0, none⟩) ∧ Row w b [r, .int .i64 (k : Int), sx, sa] ∧ Ring_b w r ∧ Sl w sx xs ∧ Sl w sa A ∧ co A = vps xs ∧ A.length = xs.length + 1
theorem Deco.up {w w' : World} {p : Value} {k : Nat} {xs : List (El 8)} (h : Deco w p k xs) (hB : RowKit.Below w.heap.size w w') : Deco w' p k xs := by
  obtain ⟨b, r, sx, sa, A, h1, h2, h3, h4, h5, h6⟩ := h
  exact ⟨b, r, sx, sa, A, h1, h2.up hB, h3.up hB, h4.up hB, h5.up hB, h6⟩
def nth (l : List (El 8)) (j : Nat) : El 8 := l.getD j 0
theorem nth_get {l : List (El 8)} {j : Nat} (h : j < l.length) : nth l j = l[j] := by unfold nth; rw [List.getD_eq_getElem?_getD, List.getElem?_eq_getElem h]; rfl
theorem map_nth (l : List (El 8)) : (List.range l.length).map (nth l) = l := List.ext_getElem (by simp) fun i h1 h2 => by rw [List.getElem_map, List.getElem_range, nth_get]
theorem mend_decoder_near_spec (w : World) (p s : Value) (k : Nat) (xs ys : List (El 8)) (hD : Deco w p k xs) (hs : Sl w s ys) (hk1 : 1 ≤ k) (hk : k ≤ xs.length) (hn : xs.length ≤ 256) (hy : ys.length = xs.length) (hX : ∀ a b, a < xs.length → b < xs.length → nth xs a = nth xs b → a = b) :
    CallV Try.prog 58 [p, s] w fun v w' => RowKit.Below w.heap.size w w' ∧
      ((∃ sf so g, v = .tuple #[sf, so, .bool true] ∧ Ow w.heap.size w' sf g ∧ Ow w.heap.size w' so ((offs g (nth xs) (nth ys) xs.length).map fun (n : Nat) => (n : Int)) ∧ tr g = g ∧ g.length ≤ k ∧ (offs g (nth xs) (nth ys) xs.length).length ≤ (xs.length - k) / 2) ∨
       (∃ sf so, v = .tuple #[sf, so, .bool false] ∧ scal sf = true ∧ ∀ g, tr g = g → g.length ≤ k → (xs.length - k) / 2 < (offs g (nth xs) (nth ys) xs.length).length)) := by
  obtain ⟨bo, r, sx, sa, A, rfl, hro, hr, hsx, hsa, hA, hAl⟩ := hD
  refine run_mend_decoder_near (by simp) ?_
  simp only [c_mend_decoder_near, WS, List.getElem_cons_zero, List.getElem_cons_succ, Option.isNone_some, Option.isNone_none, List.getD_cons_zero, List.getD_cons_succ, I.at, atL, atO, atP, evp, evs, retV, ↓reduceIte, Nat.reduceEqDiff, reduceCtorEq]
  refine WP_dops ?_
  have B := bel_drew w
  have hd := hro.drew
  have hr := hr.up B
  have hsx := hsx.up B
  have hsa := hsa.up B
  have hs := hs.up B
  simp (maxSteps := 1000000) (disch := omega) only [ES, List.mem_cons, List.not_mem_nil, implies_true, forall_const, WS, List.getElem_cons_zero, List.getElem_cons_succ, Option.isNone_some, Option.isNone_none, List.getD_cons_zero, List.getD_cons_succ, I.at, atL, atO, atP, evp, evs, retV, ↓reduceIte, Nat.reduceEqDiff, reduceCtorEq, AS, hd.Eld (show 0 < _ by simp), hd.Eld (show 1 < _ by simp), hd.Eld (show 2 < _ by simp), hd.Eld (show 3 < _ by simp)]
  refine E_call0 ((polys_Ring_b_Interpolate_spec w.drew r sx s xs ys hr hsx hs (by omega) (by omega)).mono ?_)
  rintro vv w1 ⟨hB, hres⟩
  have hX' : ∀ a b, a < xs.length → b < xs.length → xs.getD a 0 = xs.getD b 0 → a = b := hX
  obtain ⟨sf, f, rfl, of, tf, cf, lf⟩ : ∃ sf f, vv = .tuple #[sf, .int .i64 0] ∧ Ow w.drew.heap.size w1 sf f ∧ tr f = f ∧ co f = nw (nth xs) (nth ys) 0 xs.length ∧ f.length ≤ xs.length := by
    rcases hres with ⟨-, -, -, -, sf, mf, h1, h2, h3, h4, h5⟩ | ⟨-, -, h9, -⟩ | ⟨-, -, -, h9, -⟩ | ⟨h9, -⟩
    · exact ⟨sf, mf, h1, h2, h3, h4, h5⟩
    · exact absurd hy h9
    · exact absurd hX' h9
    · exact absurd ⟨by omega, by omega⟩ h9
  clear hres hX'
  have of := of.mono B.size
  have hro := hd.up hB
  have hr := hr.up hB
  have hsx := hsx.up hB
  have hsa := hsa.up hB
  have hs := hs.up hB
  have B := B.trans (hB.mono B.size)
  clear hB
  clear hd
  have fdg : Dg (co f) xs.length := (co_dg f).mono lf
  have fev : ∀ j, j < xs.length → evn (co f) (nth xs j) xs.length = nth ys j := fun j hj => by
    have := nw_ev (nth xs) (nth ys) xs.length hX xs.length 0 (by omega) j hj
    rw [Nat.zero_add] at this
    rw [cf]; exact this
  simp (maxSteps := 1000000) (disch := omega) only [ES, List.mem_cons, List.not_mem_nil, implies_true, forall_const, WS, List.getElem_cons_zero, List.getElem_cons_succ, Option.isNone_some, Option.isNone_none, List.getD_cons_zero, List.getD_cons_succ, I.at, atL, atO, atP, evp, evs, retV, ↓reduceIte, Nat.reduceEqDiff, reduceCtorEq, AS]
  simp (maxSteps := 1000000) (disch := omega) only [WS, List.getElem_cons_zero, List.getElem_cons_succ, Option.isNone_some, Option.isNone_none, List.getD_cons_zero, List.getD_cons_succ, I.at, atL, atO, atP, evp, evs, retV, ↓reduceIte, Nat.reduceEqDiff, reduceCtorEq, AS, of.sl.Xlen, hro.Xld (show 1 < _ by simp)]
  by_cases hfk : f.length ≤ k
  · have hoff : offs f (nth xs) (nth ys) xs.length = [] := by
      refine List.eq_nil_iff_forall_not_mem.2 fun j hj => ?_
      obtain ⟨h1, h2⟩ := offs_mem.1 hj
      refine h2 ?_
      rw [evl_co, evn_eq (co_dg f) fdg]
      exact fev j h1
    simp (maxSteps := 1000000) (disch := omega) only [WS, List.getElem_cons_zero, List.getElem_cons_succ, Option.isNone_some, Option.isNone_none, List.getD_cons_zero, List.getD_cons_succ, I.at, atL, atO, atP, evp, evs, retV, ↓reduceIte, Nat.reduceEqDiff, reduceCtorEq, AS]
    exact ⟨B, Or.inl ⟨sf, .slice none 0 0, f, rfl, of, by rw [hoff]; exact Or.inl ⟨rfl, rfl⟩, tf, hfk, by rw [hoff]; exact Nat.zero_le _⟩⟩
  have hkn : k < xs.length := by omega
  have q1 : ((xs.length + k + 1 : Nat) : Int).tdiv 2 = (((xs.length + k + 1) / 2 : Nat) : Int) := (Int.ofNat_tdiv _ 2).symm
  have q2 : IntKind.i64.wrap (((xs.length + k + 1) / 2 : Nat) : Int) = (((xs.length + k + 1) / 2 : Nat) : Int) := w_nat _ (by omega)
  have hn2 : ((2 : Int) ≠ 0) = True := eq_true (by decide)
  simp (maxSteps := 1000000) (disch := omega) only [WS, List.getElem_cons_zero, List.getElem_cons_succ, Option.isNone_some, Option.isNone_none, List.getD_cons_zero, List.getD_cons_succ, I.at, atL, atO, atP, evp, evs, retV, ↓reduceIte, Nat.reduceEqDiff, reduceCtorEq, AS, hro.Xld (show 2 < _ by simp), hsx.Xlen]
  refine WP_dops ?_
  have B2 := bel_drew w1
  have hro := hro.up B2
  have hr := hr.up B2
  have hsx := hsx.up B2
  have hsa := hsa.up B2
  have hs := hs.up B2
  have of := of.up B2
  have B := B.trans (B2.mono B.size)
  clear B2
  have of' := of.sl
  simp (maxSteps := 1000000) (disch := omega) only [ES, List.mem_cons, List.not_mem_nil, implies_true, forall_const, WS, List.getElem_cons_zero, List.getElem_cons_succ, Option.isNone_some, Option.isNone_none, List.getD_cons_zero, List.getD_cons_succ, I.at, atL, atO, atP, evp, evs, retV, ↓reduceIte, Nat.reduceEqDiff, reduceCtorEq, AS, hro.Eld (show 0 < _ by simp), hro.Eld (show 1 < _ by simp), hro.Eld (show 3 < _ by simp), E_quo, hn2, q1, q2]
  refine E_call0 ((polys_Ring_b_Partial_spec w1.drew r sa sf A f ((xs.length + k + 1) / 2 : Nat) hr hsa of' (by omega) (by omega)).mono ?_)
  rintro vv w2 ⟨hB, hres⟩
  obtain ⟨sm, su, sv, m, u, v, rfl, om, ov, hEu⟩ : ∃ sm su sv m u v, vv = .tuple #[sm, su, sv, .int .i64 0] ∧ Ow w1.drew.heap.size w2 sm m ∧ Ow w1.drew.heap.size w2 sv v ∧ Eu ((xs.length + k + 1) / 2) (tr A) (tr f) [1] [] [] [1] m u v := by
    rcases hres with ⟨-, -, -, sm, su, sv, m, u, v, h1, h2, -, h3, h4⟩ | ⟨-, -, h9, -⟩ | ⟨h9, -⟩
    · exact ⟨sm, su, sv, m, u, v, h1, h2, h3, by rw [Int.toNat_natCast] at h4; exact h4⟩
    · omega
    · exact absurd ⟨by omega, by omega⟩ h9
  clear hres
  have hP := hEu.whole
  have om := om.sl
  have ov := ov.sl
  have hro := hro.up hB
  have hr := hr.up hB
  have hsx := hsx.up hB
  have hsa := hsa.up hB
  have hs := hs.up hB
  have B := B.trans (hB.mono B.size)
  clear hB
  clear of of'
  have hgao : ∀ g, tr g = g → g.length ≤ k → (offs g (nth xs) (nth ys) xs.length).length ≤ (xs.length - k) / 2 → co m = co v * co g ∧ v ≠ [] := fun g tg hg hn => gao hX (by rw [map_nth, hA]) fdg fev hEu hkn rfl ((co_dg g).mono hg) hn
  have hml := hP.lm
  have hvl := (hEu.lens).2.2.2
  simp (maxSteps := 1000000) (disch := omega) only [ES, List.mem_cons, List.not_mem_nil, implies_true, forall_const, WS, List.getElem_cons_zero, List.getElem_cons_succ, Option.isNone_some, Option.isNone_none, List.getD_cons_zero, List.getD_cons_succ, I.at, atL, atO, atP, evp, evs, retV, ↓reduceIte, Nat.reduceEqDiff, reduceCtorEq, AS]
  simp (maxSteps := 1000000) (disch := omega) only [WS, List.getElem_cons_zero, List.getElem_cons_succ, Option.isNone_some, Option.isNone_none, List.getD_cons_zero, List.getD_cons_succ, I.at, atL, atO, atP, evp, evs, retV, ↓reduceIte, Nat.reduceEqDiff, reduceCtorEq, AS, hro.Xld (show 0 < _ by simp)]
  have hvb : v.length ≤ 1024 := by
    have h1 := (hEu.lens).2.1
    have h3 := tln_le A
    omega
  have hsz2 := B.size
  refine X_call0 ((polys_Ring_b_DivMod_spec w2 r sm sv m v hr om ov (by omega) (by omega)).mono ?_)
  rintro vv w3 ⟨hB, hres⟩
  have hro := hro.up hB
  have hr := hr.up hB
  have hsx := hsx.up hB
  have hsa := hsa.up hB
  have hs := hs.up hB
  have B := B.trans (hB.mono B.size)
  clear hB
  rcases hres with ⟨-, -, -, sq, sr, g, rest, rfl, og, orr, tg, trr, hdm, hrl, -⟩ | ⟨-, -, hv0, rfl⟩ | ⟨h9, -⟩
  rotate_left
  · simp (maxSteps := 1000000) (disch := omega) only [WS, List.getElem_cons_zero, List.getElem_cons_succ, Option.isNone_some, Option.isNone_none, List.getD_cons_zero, List.getD_cons_succ, I.at, atL, atO, atP, evp, evs, retV, ↓reduceIte, Nat.reduceEqDiff, reduceCtorEq, AS, show decide ((40 : Int) ≠ 0) = true from rfl]
    refine ⟨B, Or.inr ⟨_, _, rfl, rfl, fun g tg hg => Nat.lt_of_not_le fun hn => ?_⟩⟩
    obtain ⟨-, h2⟩ := hgao g tg hg hn
    have := len_tr hP.tv
    exact h2 (List.length_eq_zero_iff.1 (by omega))
  · exact absurd ⟨by omega, by omega⟩ h9
  have og := og.mono hsz2
  have orr := orr.sl
  have hnear : ∀ g', tr g' = g' → g'.length ≤ k → (offs g' (nth xs) (nth ys) xs.length).length ≤ (xs.length - k) / 2 → g = g' ∧ rest = [] := fun g' tg' hg' hn => by
    obtain ⟨h1, -⟩ := hgao g' tg' hg' hn
    exact gao_div h1 tg' tg trr hdm hrl
  by_cases hrest : 0 < rest.length
  · simp (maxSteps := 1000000) (disch := omega) only [WS, List.getElem_cons_zero, List.getElem_cons_succ, Option.isNone_some, Option.isNone_none, List.getD_cons_zero, List.getD_cons_succ, I.at, atL, atO, atP, evp, evs, retV, ↓reduceIte, Nat.reduceEqDiff, reduceCtorEq, AS, show decide ((0 : Int) ≠ 0) = false from rfl, orr.Xlen]
    refine ⟨B, Or.inr ⟨_, _, rfl, rfl, fun g' tg' hg' => Nat.lt_of_not_le fun hn => ?_⟩⟩
    have := (hnear g' tg' hg' hn).2
    rw [this] at hrest
    exact absurd hrest (by simp)
  by_cases hgk : k < g.length
  · simp (maxSteps := 1000000) (disch := omega) only [WS, List.getElem_cons_zero, List.getElem_cons_succ, Option.isNone_some, Option.isNone_none, List.getD_cons_zero, List.getD_cons_succ, I.at, atL, atO, atP, evp, evs, retV, ↓reduceIte, Nat.reduceEqDiff, reduceCtorEq, AS, show decide ((0 : Int) ≠ 0) = false from rfl, orr.Xlen, og.sl.Xlen, hro.Xld (show 1 < _ by simp)]
    refine ⟨B, Or.inr ⟨_, _, rfl, rfl, fun g' tg' hg' => Nat.lt_of_not_le fun hn => ?_⟩⟩
    have := (hnear g' tg' hg' hn).1
    rw [← this] at hg'
    omega
  simp (maxSteps := 1000000) (disch := omega) only [WS, List.getElem_cons_zero, List.getElem_cons_succ, Option.isNone_some, Option.isNone_none, List.getD_cons_zero, List.getD_cons_succ, I.at, atL, atO, atP, evp, evs, retV, ↓reduceIte, Nat.reduceEqDiff, reduceCtorEq, AS, show decide ((0 : Int) ≠ 0) = false from rfl, orr.Xlen, og.sl.Xlen, hro.Xld (show 1 < _ by simp), hro.Xld (show 2 < _ by simp), hsx.Xlen]
  have q3 : ((xs.length - k : Nat) : Int).tdiv 2 = (((xs.length - k) / 2 : Nat) : Int) := (Int.ofNat_tdiv _ 2).symm
  have q4 : IntKind.i64.wrap (((xs.length - k) / 2 : Nat) : Int) = (((xs.length - k) / 2 : Nat) : Int) := w_nat _ (by omega)
  refine loop_of (fun t w' => t 0 = .pointer (some ⟨bo, 0, none⟩) ∧ t 1 = s ∧ t 4 = sq ∧ t 7 = .int .i64 (xs.length : Int) ∧ t 95 = sx ∧ t 96 = .int .i64 (xs.length : Int) ∧ RowKit.Below w3.heap.size w3 w' ∧ ∃ (i : Nat) (so : Value), t 97 = .int .i64 (i : Int) ∧ i ≤ xs.length ∧ t 5 = so ∧ Ow w3.heap.size w' so ((offs g (nth xs) (nth ys) i).map fun (n : Nat) => (n : Int))) (fun t _ => xs.length - (toI (t 97)).toNat)
    ⟨by simp only [WS, List.getElem_cons_zero, List.getElem_cons_succ, Option.isNone_some, Option.isNone_none, List.getD_cons_zero, List.getD_cons_succ, I.at, atL, atO, atP, evp, evs, retV, ↓reduceIte, Nat.reduceEqDiff, reduceCtorEq], by simp only [WS, List.getElem_cons_zero, List.getElem_cons_succ, Option.isNone_some, Option.isNone_none, List.getD_cons_zero, List.getD_cons_succ, I.at, atL, atO, atP, evp, evs, retV, ↓reduceIte, Nat.reduceEqDiff, reduceCtorEq], by simp only [WS, List.getElem_cons_zero, List.getElem_cons_succ, Option.isNone_some, Option.isNone_none, List.getD_cons_zero, List.getD_cons_succ, I.at, atL, atO, atP, evp, evs, retV, ↓reduceIte, Nat.reduceEqDiff, reduceCtorEq], by simp only [WS, List.getElem_cons_zero, List.getElem_cons_succ, Option.isNone_some, Option.isNone_none, List.getD_cons_zero, List.getD_cons_succ, I.at, atL, atO, atP, evp, evs, retV, ↓reduceIte, Nat.reduceEqDiff, reduceCtorEq], by simp only [WS, List.getElem_cons_zero, List.getElem_cons_succ, Option.isNone_some, Option.isNone_none, List.getD_cons_zero, List.getD_cons_succ, I.at, atL, atO, atP, evp, evs, retV, ↓reduceIte, Nat.reduceEqDiff, reduceCtorEq], by simp only [WS, List.getElem_cons_zero, List.getElem_cons_succ, Option.isNone_some, Option.isNone_none, List.getD_cons_zero, List.getD_cons_succ, I.at, atL, atO, atP, evp, evs, retV, ↓reduceIte, Nat.reduceEqDiff, reduceCtorEq], RowKit.Below.refl _ _, 0, .slice none 0 0, by simp only [WS, List.getElem_cons_zero, List.getElem_cons_succ, Option.isNone_some, Option.isNone_none, List.getD_cons_zero, List.getD_cons_succ, I.at, atL, atO, atP, evp, evs, retV, ↓reduceIte, Nat.reduceEqDiff, reduceCtorEq]; rfl, by omega, by simp only [WS, List.getElem_cons_zero, List.getElem_cons_succ, Option.isNone_some, Option.isNone_none, List.getD_cons_zero, List.getD_cons_succ, I.at, atL, atO, atP, evp, evs, retV, ↓reduceIte, Nat.reduceEqDiff, reduceCtorEq], Or.inl ⟨rfl, rfl⟩⟩ ?_
  rintro t w4 ⟨t0, t1, t4, t7, t95, t96, C, i, so, t97, hi, t5, oo⟩
  have holen : (offs g (nth xs) (nth ys) i).length ≤ i := by
    unfold offs
    have := List.length_filter_le (fun j => !decide (evl g (nth xs j) = nth ys j)) (List.range i)
    rwa [List.length_range] at this
  have hom : ((offs g (nth xs) (nth ys) i).map fun (n : Nat) => (n : Int)).length = (offs g (nth xs) (nth ys) i).length := List.length_map ..
  by_cases hin : i < xs.length
  · have iy : i < ys.length := by omega
    have hsx4 := hsx.up C
    simp (maxSteps := 1000000) (disch := omega) only [WS, List.getElem_cons_zero, List.getElem_cons_succ, Option.isNone_some, Option.isNone_none, List.getD_cons_zero, List.getD_cons_succ, I.at, atL, atO, atP, evp, evs, retV, ↓reduceIte, Nat.reduceEqDiff, reduceCtorEq, AS, t0, t1, t4, t5, t7, t95, t96, t97, hsx4.Xix hin, hsx4.Xld hin, cell_e8]
    refine WP_dops ?_
    have B2 := bel_drew w4
    have C2 := C.trans (B2.mono C.size)
    have oo2 := oo.up B2
    have hro4 := hro.up C2
    have hr4 := hr.up C2
    have og4 := (og.up C2).sl
    have hs4 := hs.up C2
    have see : Fw.sees Try.prog (.ld (.c (elP s i))) w4.drew (.int .u8 (ys[i].v.toNat : Int)) = True := hs4.sees iy Try.prog
    simp (maxSteps := 1000000) (disch := omega) only [ES, List.mem_cons, List.not_mem_nil, implies_true, forall_const, WS, List.getElem_cons_zero, List.getElem_cons_succ, Option.isNone_some, Option.isNone_none, List.getD_cons_zero, List.getD_cons_succ, I.at, atL, atO, atP, evp, evs, retV, ↓reduceIte, Nat.reduceEqDiff, reduceCtorEq, AS, t0, t1, t4, t5, t7, t95, t96, t97, hro4.Eld (show 0 < _ by simp)]
    refine E_call0 ((polys_Ring_b_Eval_spec w4.drew r sq g xs[i] hr4 og4 (by omega)).mono ?_)
    rintro _ w5 ⟨rfl, hB⟩
    have hs5 := hs4.up hB
    have oo3 := oo2.up hB
    have C3 := C2.trans (hB.mono C2.size)
    have hoff : offs g (nth xs) (nth ys) (i + 1) = offs g (nth xs) (nth ys) i ++ if evl g (nth xs i) = nth ys i then [] else [i] := by
      unfold offs
      rw [List.range_succ, List.filter_append]
      congr 1
      by_cases h : evl g (nth xs i) = nth ys i <;> simp [h]
    rw [nth_get hin, nth_get iy] at hoff
    by_cases heq : evl g xs[i] = ys[i]
    · rw [if_pos heq, List.append_nil] at hoff
      simp (maxSteps := 1000000) (disch := omega) only [ES, List.mem_cons, List.not_mem_nil, implies_true, forall_const, WS, List.getElem_cons_zero, List.getElem_cons_succ, Option.isNone_some, Option.isNone_none, List.getD_cons_zero, List.getD_cons_succ, I.at, atL, atO, atP, evp, evs, retV, ↓reduceIte, Nat.reduceEqDiff, reduceCtorEq, AS, t0, t1, t4, t5, t7, t95, t96, t97, hs5.Eix iy, hs5.Eld iy, cell_e8, see, heq, ne_eq, not_true_eq_false, decide_false]
      exact ⟨⟨C3, i + 1, so, rfl, by omega, rfl, by rw [hoff]; exact oo3⟩, by omega⟩
    · rw [if_neg heq] at hoff
      have hne : ((evl g xs[i]).v.toNat : Int) ≠ (ys[i].v.toNat : Int) := fun e => heq (El.ext (BitVec.eq_of_toNat_eq (by omega)))
      simp (maxSteps := 1000000) (disch := omega) only [ES, List.mem_cons, List.not_mem_nil, implies_true, forall_const, WS, List.getElem_cons_zero, List.getElem_cons_succ, Option.isNone_some, Option.isNone_none, List.getD_cons_zero, List.getD_cons_succ, I.at, atL, atO, atP, evp, evs, retV, ↓reduceIte, Nat.reduceEqDiff, reduceCtorEq, AS, t0, t1, t4, t5, t7, t95, t96, t97, hs5.Eix iy, hs5.Eld iy, cell_e8, see]
      refine X_bsl (zs := [(i : Int)]) (by rfl) (by rfl) fun e0 w6 oe hB => ?_
      have oe := oe.sl
      have oo4 := oo3.up hB
      have C4 := C3.trans (hB.mono C3.size)
      simp (maxSteps := 1000000) (disch := omega) only [WS, List.getElem_cons_zero, List.getElem_cons_succ, Option.isNone_some, Option.isNone_none, List.getD_cons_zero, List.getD_cons_succ, I.at, atL, atO, atP, evp, evs, retV, ↓reduceIte, Nat.reduceEqDiff, reduceCtorEq, AS, t0, t1, t4, t5, t7, t95, t96, t97]
      refine Ow.Xapp oo4 oe C4.size (by rw [hom]; simp only [List.length_singleton, maxBytes]; omega) (by rw [hom]; simp only [List.length_singleton]; omega) fun e1 w7 oo5 hg _ => ?_
      have C5 := Below.app C4 C4.size hg fun b hb => (oo4.blk b hb).1
      simp (maxSteps := 1000000) (disch := omega) only [WS, List.getElem_cons_zero, List.getElem_cons_succ, Option.isNone_some, Option.isNone_none, List.getD_cons_zero, List.getD_cons_succ, I.at, atL, atO, atP, evp, evs, retV, ↓reduceIte, Nat.reduceEqDiff, reduceCtorEq, AS, t0, t1, t4, t5, t7, t95, t96, t97]
      exact ⟨⟨C5, i + 1, e1, rfl, by omega, rfl, by rw [hoff, List.map_append]; exact oo5⟩, by omega⟩
  · have hie : i = xs.length := by omega
    rw [hie] at oo holen hom
    simp (maxSteps := 1000000) (disch := omega) only [WS, List.getElem_cons_zero, List.getElem_cons_succ, Option.isNone_some, Option.isNone_none, List.getD_cons_zero, List.getD_cons_succ, I.at, atL, atO, atP, evp, evs, retV, ↓reduceIte, Nat.reduceEqDiff, reduceCtorEq, AS, t0, t1, t4, t5, t7, t95, t96, t97]
    refine WP_dops ?_
    have B2 := bel_drew w4
    have C2 := C.trans (B2.mono C.size)
    have oo2 := oo.up B2
    have hro4 := hro.up C2
    have og4 := og.up C2
    by_cases hok : (offs g (nth xs) (nth ys) xs.length).length ≤ (xs.length - k) / 2
    · simp (maxSteps := 1000000) (disch := omega) only [ES, List.mem_cons, List.not_mem_nil, implies_true, forall_const, WS, List.getElem_cons_zero, List.getElem_cons_succ, Option.isNone_some, Option.isNone_none, List.getD_cons_zero, List.getD_cons_succ, I.at, atL, atO, atP, evp, evs, retV, ↓reduceIte, Nat.reduceEqDiff, reduceCtorEq, AS, t0, t1, t4, t5, t7, t95, t96, t97, oo2.sl.Elen, hom, hro4.Eld (show 1 < _ by simp), E_quo, hn2, q3, q4]
      exact ⟨B.trans (C2.mono B.size), Or.inl ⟨sq, so, g, rfl, og4, oo2.mono B.size, tg, by omega, hok⟩⟩
    · simp (maxSteps := 1000000) (disch := omega) only [ES, List.mem_cons, List.not_mem_nil, implies_true, forall_const, WS, List.getElem_cons_zero, List.getElem_cons_succ, Option.isNone_some, Option.isNone_none, List.getD_cons_zero, List.getD_cons_succ, I.at, atL, atO, atP, evp, evs, retV, ↓reduceIte, Nat.reduceEqDiff, reduceCtorEq, AS, t0, t1, t4, t5, t7, t95, t96, t97, oo2.sl.Elen, hom, hro4.Eld (show 1 < _ by simp), E_quo, hn2, q3, q4]
      refine ⟨B.trans (C2.mono B.size), Or.inr ⟨_, _, rfl, (by obtain ⟨_, _, e, -⟩ := og4.sl.sh; rw [e]; rfl), fun g' tg' hg' => Nat.lt_of_not_le fun hn => ?_⟩⟩
      have := (hnear g' tg' hg' hn).1
      rw [← this] at hn
      exact hok hn
end Go.Proofs.Ytbaljbadlfopgaa.Fw

set_option linter.unusedVariables false
set_option linter.unusedSimpArgs false
set_option maxRecDepth 100000
set_option maxHeartbeats 1000000
namespace Go.Proofs.Ytbaljbadlfopgaa.Fw
open Go Go.Fw Go.Proofs
attribute [local irreducible] stepI
def c_mend_Radius : C := .seq (.ops [⟨0, (some 4), none, .mov (.c (.int .i64 0)), []⟩, ⟨1, (some 5), none, .mov (.c (.int .i64 0)), []⟩]) (.seq (.seq (.ops [⟨0, (some 6), none, .mov (.t 0), []⟩, ⟨1, (some 7), none, .bin .lss (.t 6) (.c (.int .i64 1)), []⟩, ⟨2, (some 8), none, .mov (.t 7), []⟩, ⟨3, (some 9), (some (8, false)), .mov (.t 0), []⟩, ⟨4, (some 10), (some (8, false)), .bin .gtr (.t 9) (.c (.int .i64 256)), []⟩, ⟨5, (some 11), none, .pick (.t 8) (.c (.bool true)) (.t 10), []⟩, ⟨6, (some 12), none, .mov (.t 11), []⟩, ⟨7, (some 13), (some (12, false)), .mov (.t 1), []⟩, ⟨8, (some 14), (some (12, false)), .bin .gtr (.t 13) (.c (.int .i64 256)), []⟩, ⟨9, (some 15), none, .pick (.t 12) (.c (.bool true)) (.t 14), []⟩]) (.ite (.t 15) (.seq (.ops [⟨0, (some 4), none, .mov (.c (.int .i64 0)), []⟩, ⟨1, (some 5), none, .mov (.c (.int .i64 4)), []⟩]) .ret) .skip)) (.seq (.seq (.ops [⟨0, (some 16), none, .mov (.t 1), []⟩, ⟨1, (some 17), none, .mov (.t 0), []⟩, ⟨2, (some 18), none, .bin .lss (.t 16) (.t 17), []⟩]) (.ite (.t 18) (.seq (.ops [⟨0, (some 4), none, .mov (.c (.int .i64 0)), []⟩, ⟨1, (some 5), none, .mov (.c (.int .i64 9)), []⟩]) .ret) .skip)) (.seq (.ops [⟨0, (some 19), none, .mov (.t 1), []⟩, ⟨1, (some 20), none, .mov (.t 0), []⟩, ⟨2, (some 21), none, .bin .sub (.t 19) (.t 20), []⟩, ⟨3, (some 22), none, .bin .quo (.t 21) (.c (.int .i64 2)), []⟩, ⟨4, (some 4), none, .mov (.t 22), []⟩, ⟨5, (some 5), none, .mov (.c (.int .i64 0)), []⟩]) .ret)))
attribute [irreducible] c_mend_Radius
theorem run_mend_Radius {args : List Value} {w : World} {K : Value → World → Prop} (hn : args.length ≤ 23) (h : WP Try.prog c_mend_Radius (endQ [.t 4, .t 5] K) (initT args) w) : CallV Try.prog 18 args w K :=
  call_of follows Try.func18 (by kernel_rfl) (by kernel_rfl) hn h
def c_mend_newDecoder : C := .seq (.ops [⟨0, (some 4), none, .mov (.c (.pointer none)), []⟩]) (.seq (.ops [⟨0, (some 6), none, .call (.c (.func (.func 55) #[] #[])) [], []⟩, ⟨1, (some 7), none, .mov (.t 0), []⟩, ⟨2, (some 8), none, .mov (.t 1), []⟩, ⟨3, (some 9), none, .bld [.pointer none, .int .i64 0, .slice none 0 0, .slice none 0 0] [(0, (1, .t 6)), (1, (1, .t 7)), (2, (1, .t 8))], []⟩, ⟨4, (some 10), none, .box 113 (.t 9), []⟩, ⟨5, (some 5), none, .mov (.t 10), []⟩]) (.seq (.ops [⟨0, (some 12), none, .mov (.t 5), []⟩, ⟨1, (some 13), none, .mov (.t 5), []⟩, ⟨2, (some 14), none, .nil (.t 13), []⟩, ⟨3, (some 15), none, .fad 0 (.t 14), []⟩, ⟨4, (some 16), none, .ld (.t 15), []⟩, ⟨5, (some 17), none, .mov (.t 1), []⟩, ⟨6, (some 18), none, .call (.c (.func (.func 89) #[] #[])) [.t 16, .t 17], []⟩, ⟨7, (some 11), none, .mov (.t 18), []⟩, ⟨8, (some 19), none, .ext (.t 11) 0, []⟩, ⟨9, (some 20), none, .ext (.t 11) 1, []⟩, ⟨10, (some 21), none, .nil (.t 12), []⟩, ⟨11, (some 22), none, .fad 3 (.t 21), []⟩, ⟨12, none, none, .st (.t 22) (.t 19), []⟩]) (.seq (.ops [⟨0, (some 23), none, .mov (.t 5), []⟩, ⟨1, (some 4), none, .mov (.t 23), []⟩]) .ret)))
attribute [irreducible] c_mend_newDecoder
theorem run_mend_newDecoder {args : List Value} {w : World} {K : Value → World → Prop} (hn : args.length ≤ 24) (h : WP Try.prog c_mend_newDecoder (endQ [.t 4] K) (initT args) w) : CallV Try.prog 57 args w K :=
  call_of follows Try.func57 (by kernel_rfl) (by kernel_rfl) hn h
end Go.Proofs.Ytbaljbadlfopgaa.Fw
namespace Go.Proofs.Ytbaljbadlfopgaa.Fw
open Go Go.Fw
theorem mend_Radius_spec (w : World) (k n : Int) (hk : -9223372036854775808 ≤ k ∧ k ≤ 9223372036854775807) (hn : -9223372036854775808 ≤ n ∧ n ≤ 9223372036854775807) : CallV Try.prog 18 [.int .i64 k, .int .i64 n] w fun v w' => w' = w ∧
    (((k < 1 ∨ k > 256 ∨ n > 256) ∧ v = .tuple #[.int .i64 0, .int .i64 4]) ∨ (¬ (k < 1 ∨ k > 256 ∨ n > 256) ∧ n < k ∧ v = .tuple #[.int .i64 0, .int .i64 9]) ∨ (¬ (k < 1 ∨ k > 256 ∨ n > 256) ∧ ¬ n < k ∧ v = .tuple #[.int .i64 ((n - k) / 2), .int .i64 0])) := by
  refine run_mend_Radius (by simp) ?_
  simp only [c_mend_Radius, WS, List.getElem_cons_zero, List.getElem_cons_succ, Option.isNone_some, Option.isNone_none, List.getD_cons_zero, List.getD_cons_succ, I.at, atL, atO, atP, evp, evs, retV, ↓reduceIte, Nat.reduceEqDiff, reduceCtorEq]
  by_cases h1 : k < 1
  · simp (maxSteps := 1000000) (disch := omega) only [WS, List.getElem_cons_zero, List.getElem_cons_succ, Option.isNone_some, Option.isNone_none, List.getD_cons_zero, List.getD_cons_succ, I.at, atL, atO, atP, evp, evs, retV, ↓reduceIte, Nat.reduceEqDiff, reduceCtorEq, AS]
    exact Or.inl (Or.inl h1)
  by_cases h2 : k > 256
  · simp (maxSteps := 1000000) (disch := omega) only [WS, List.getElem_cons_zero, List.getElem_cons_succ, Option.isNone_some, Option.isNone_none, List.getD_cons_zero, List.getD_cons_succ, I.at, atL, atO, atP, evp, evs, retV, ↓reduceIte, Nat.reduceEqDiff, reduceCtorEq, AS]
    exact Or.inl (Or.inr (Or.inl h2))
  by_cases h3 : n > 256
  · simp (maxSteps := 1000000) (disch := omega) only [WS, List.getElem_cons_zero, List.getElem_cons_succ, Option.isNone_some, Option.isNone_none, List.getD_cons_zero, List.getD_cons_succ, I.at, atL, atO, atP, evp, evs, retV, ↓reduceIte, Nat.reduceEqDiff, reduceCtorEq, AS]
    exact Or.inl (Or.inr (Or.inr h3))
  have hno : ¬ (k < 1 ∨ k > 256 ∨ n > 256) := by omega
  by_cases h4 : n < k
  · simp (maxSteps := 1000000) (disch := omega) only [WS, List.getElem_cons_zero, List.getElem_cons_succ, Option.isNone_some, Option.isNone_none, List.getD_cons_zero, List.getD_cons_succ, I.at, atL, atO, atP, evp, evs, retV, ↓reduceIte, Nat.reduceEqDiff, reduceCtorEq, AS]
    exact Or.inr (Or.inl ⟨hno, h4⟩)
  have hn2 : ((2 : Int) ≠ 0) = True := eq_true (by decide)
  have e1 : IntKind.i64.wrap (n - k) = n - k := wrap_id (by omega) (by omega)
  have e2 : (n - k).tdiv 2 = (n - k) / 2 := Int.tdiv_eq_ediv_of_nonneg (by omega)
  have e3 : IntKind.i64.wrap ((n - k) / 2) = (n - k) / 2 := wrap_id (by omega) (by omega)
  simp (maxSteps := 1000000) (disch := omega) only [WS, List.getElem_cons_zero, List.getElem_cons_succ, Option.isNone_some, Option.isNone_none, List.getD_cons_zero, List.getD_cons_succ, I.at, atL, atO, atP, evp, evs, retV, ↓reduceIte, Nat.reduceEqDiff, reduceCtorEq, AS, X_quo, hn2, e1, e2, e3]
  exact Or.inr (Or.inr ⟨hno, h4⟩)
theorem mend_newDecoder_spec (w : World) (k : Nat) (s : Value) (xs : List (El 8)) (hs : Sl w s xs) (hn : xs.length ≤ 256) : CallV Try.prog 57 [.int .i64 (k : Int), s] w fun v w' => Deco w' v k xs ∧ RowKit.Below w.heap.size w w' := by
  refine run_mend_newDecoder (by simp) ?_
  simp only [c_mend_newDecoder, WS, List.getElem_cons_zero, List.getElem_cons_succ, Option.isNone_some, Option.isNone_none, List.getD_cons_zero, List.getD_cons_succ, I.at, atL, atO, atP, evp, evs, retV, ↓reduceIte, Nat.reduceEqDiff, reduceCtorEq]
  refine X_call0 ((polys_Over8_spec w).mono ?_)
  rintro r w1 ⟨hr, hB, -⟩
  have B := hB
  have hs := hs.up hB
  clear hB
  have hf : fillL [.pointer none, .int .i64 0, .slice none 0 0, .slice none 0 0] [(0, 1, r), (1, 1, .int .i64 (k : Int)), (2, 1, s)] = some [r, .int .i64 (k : Int), s, .slice none 0 0] := by
    obtain ⟨_, _, _, rfl, -⟩ := hr
    obtain ⟨_, _, rfl, -, -⟩ := hs.sh
    rfl
  simp (maxSteps := 1000000) (disch := omega) only [WS, List.getElem_cons_zero, List.getElem_cons_succ, Option.isNone_some, Option.isNone_none, List.getD_cons_zero, List.getD_cons_succ, I.at, atL, atO, atP, evp, evs, retV, ↓reduceIte, Nat.reduceEqDiff, reduceCtorEq, AS, X_bld, hf]
  refine X_box fun bo w2 hro hbo hB => ?_
  have hro : Row w2 bo [r, .int .i64 (k : Int), s, .slice none 0 0] := hro
  have hlt := row_lt hro
  simp (maxSteps := 1000000) (disch := omega) only [WS, List.getElem_cons_zero, List.getElem_cons_succ, Option.isNone_some, Option.isNone_none, List.getD_cons_zero, List.getD_cons_succ, I.at, atL, atO, atP, evp, evs, retV, ↓reduceIte, Nat.reduceEqDiff, reduceCtorEq, AS, hro.Xld (show 0 < _ by simp)]
  refine X_call0 ((polys_Ring_b_Vanishing_spec w2 r s xs (hr.up hB) (hs.up hB) (by omega)).mono ?_)
  rintro _ w3 ⟨hB3, ⟨-, sa, A, rfl, oA, hAl, hA⟩ | ⟨h9, -⟩⟩
  rotate_left
  · exact absurd (by omega) h9
  have hro := hro.up hB3
  have C := hB.trans (hB3.mono hB.size)
  simp (maxSteps := 1000000) (disch := omega) only [WS, List.getElem_cons_zero, List.getElem_cons_succ, Option.isNone_some, Option.isNone_none, List.getD_cons_zero, List.getD_cons_succ, I.at, atL, atO, atP, evp, evs, retV, ↓reduceIte, Nat.reduceEqDiff, reduceCtorEq, AS]
  have hsc : scal sa = true := by
    obtain ⟨_, _, rfl, -, -⟩ := oA.sl.sh
    rfl
  refine Row.Xst (o := 3) hro (by simp) hsc fun w4 hr4 hg => ?_
  have C := Below.row C hbo hg
  have oA := oA.grown hg fun e => by
    have := (oA.blk bo e).1
    omega
  simp (maxSteps := 1000000) (disch := omega) only [WS, List.getElem_cons_zero, List.getElem_cons_succ, Option.isNone_some, Option.isNone_none, List.getD_cons_zero, List.getD_cons_succ, I.at, atL, atO, atP, evp, evs, retV, ↓reduceIte, Nat.reduceEqDiff, reduceCtorEq, AS]
  exact ⟨⟨bo, r, s, sa, A, rfl, hr4, hr.up C, hs.up C, oA.sl, hA, hAl⟩, B.trans (C.mono B.size)⟩
end Go.Proofs.Ytbaljbadlfopgaa.Fw

/- The document's product in GF(2^16): shift, add, reduce from the top; the even roots. Plain maths. -/
set_option linter.unusedVariables false
namespace Go.Fw
/-! Even roots. -/
end Go.Fw

set_option linter.unusedVariables false
set_option linter.unusedSimpArgs false
set_option maxRecDepth 100000
set_option maxHeartbeats 1000000
namespace Go.Proofs.Ytbaljbadlfopgaa.Fw
open Go Go.Fw Go.Proofs
attribute [local irreducible] stepI
end Go.Proofs.Ytbaljbadlfopgaa.Fw
namespace Go.Proofs.Ytbaljbadlfopgaa.Fw
open Go Go.Fw
end Go.Proofs.Ytbaljbadlfopgaa.Fw

/- The document's product in GF(2^8); powers as inverses. Plain maths. -/
set_option linter.unusedVariables false
namespace Go.Fw
def rec1 (p : BitVec 32) (i : Nat) : BitVec 32 := p ^^^ sel (p.getLsbD i) (0x11d#32 <<< (i - 8))
def recN : Nat → BitVec 32 → BitVec 32
  | 0, p => p
  | m + 1, p => recN m (rec1 p (8 + m))
def rec8 (p : BitVec 32) : BitVec 8 := (recN 7 p).setWidth 8
theorem badd_rec1 (i : Nat) : BAdd (fun p => rec1 p i) := fun a b => by
  show (a ^^^ b) ^^^ sel ((a ^^^ b).getLsbD i) (0x11d#32 <<< (i - 8)) = (a ^^^ sel (a.getLsbD i) (0x11d#32 <<< (i - 8))) ^^^ (b ^^^ sel (b.getLsbD i) (0x11d#32 <<< (i - 8)))
  rw [BitVec.getLsbD_xor, sel_bxor]
  ac_rfl
theorem badd_recN : ∀ m, BAdd (recN m)
  | 0 => fun _ _ => rfl
  | m + 1 => fun a b => by
    show recN m (rec1 (a ^^^ b) (8 + m)) = recN m (rec1 a (8 + m)) ^^^ recN m (rec1 b (8 + m))
    rw [show rec1 (a ^^^ b) (8 + m) = rec1 a (8 + m) ^^^ rec1 b (8 + m) from badd_rec1 (8 + m) a b, badd_recN m]
theorem badd_rec8 : BAdd rec8 := fun a b => by
  unfold rec8
  rw [badd_recN 7 a b, BitVec.setWidth_xor]
def mulQ (a b : BitVec 8) (n : Nat) : BitVec 32 := bsum (fun t => sel (b.getLsbD t) (a.setWidth 32 <<< t)) n
theorem badd_sh8 (i : Nat) : BAdd (fun a : BitVec 8 => a.setWidth 32 <<< i) := fun a b => by
  show (a ^^^ b).setWidth 32 <<< i = _
  rw [BitVec.setWidth_xor, BitVec.shiftLeft_xor_distrib]
theorem badd_pw8 (i : Nat) : BAdd (fun a : BitVec 8 => pw r8 a i) := fun a b => pw_xor r8 a b i
theorem mul_rec8 (a b : BitVec 8) : rec8 (mulQ a b 8) = bmul r8 a b := by
  unfold mulQ bmul
  rw [BAdd.sum badd_rec8]
  refine bsum_congr 8 fun i hi => ?_
  rw [BAdd.sel badd_rec8]
  congr 1
  have key : ∀ i < 8, ∀ t < 8, rec8 ((be 8 t).setWidth 32 <<< i) = pw r8 (be 8 t) i := by decide +kernel
  exact BAdd.ext (f := fun a => rec8 (a.setWidth 32 <<< i)) (g := fun a => pw r8 a i) (BAdd.comp badd_rec8 (badd_sh8 i)) (badd_pw8 i) (key i hi) a
/-! Squares of squares; their products. -/
section
variable {n : Nat} [F : Fd n]
def sqn (a : El n) : Nat → El n
  | 0 => a
  | k + 1 => sqn a k * sqn a k
def pin (a : El n) : Nat → El n
  | 0 => 1
  | k + 1 => pin a k * sqn a (k + 1)
end
theorem sqn8 (a : El 8) : ∀ k, sqn a k = ⟨bsqn r8 a.v k⟩
  | 0 => rfl
  | k + 1 => by show sqn a k * sqn a k = _; rw [sqn8 a k]; rfl
theorem pin8 (a : El 8) : ∀ k, pin a k = ⟨bin r8 a.v k⟩
  | 0 => rfl
  | k + 1 => by show pin a k * sqn a (k + 1) = _; rw [pin8 a k, sqn8]; rfl
theorem pin_inv8 (a : El 8) : pin a 7 = a.inv := pin8 a 7
end Go.Fw
