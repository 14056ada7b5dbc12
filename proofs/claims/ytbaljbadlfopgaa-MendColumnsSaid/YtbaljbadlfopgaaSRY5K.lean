import Derived.Test.YtbaljbadlfopgaaProg
import Derived.Test.YtbaljbadlfopgaaFwTK
import Derived.Test.YtbaljbadlfopgaaSRY3K
import Derived.Test.YtbaljbadlfopgaaFwWK
import Derived.Test.YtbaljbadlfopgaaFwOK
set_option linter.all false
set_option linter.unusedVariables false
set_option linter.unusedSimpArgs false
set_option maxRecDepth 100000
set_option maxHeartbeats 1000000
namespace Go.Proofs.Ytbaljbadlfopgaa.Fw
open Go Go.Fw Go.Proofs
attribute [local irreducible] stepI
def c_culletlaw19_plays : C := .seq (.ops [⟨0, (some 1), none, .box 27 (.t 0), []⟩, ⟨1, (some 2), none, .mov (.c (.bool false)), []⟩]) (.seq (.ops [⟨0, (some 20), none, .bsl 3 0 [.int .i64 0] [], []⟩, ⟨1, (some 21), none, .fad 3 (.t 1), []⟩, ⟨2, (some 22), none, .ld (.t 21), []⟩, ⟨3, (some 23), none, .app 3 8 [.int .i64 0] (.t 20) (.t 22), []⟩, ⟨4, (some 3), none, .mov (.t 23), []⟩]) (.seq (.ops [⟨0, (some 24), none, .bsl 5 0 [.int .u8 0] [], []⟩, ⟨1, (some 25), none, .fad 4 (.t 1), []⟩, ⟨2, (some 26), none, .ld (.t 25), []⟩, ⟨3, (some 27), none, .app 5 1 [.int .u8 0] (.t 24) (.t 26), []⟩, ⟨4, (some 4), none, .mov (.t 27), []⟩]) (.seq (.ops [⟨0, (some 5), none, .mov (.c (.bool true)), []⟩]) (.seq (.seq (.ops [⟨0, (some 28), none, .fad 0 (.t 1), []⟩, ⟨1, (some 29), none, .ld (.t 28), []⟩]) (.block 0 (.seq (.ops [⟨0, (some 31), none, .bin .eql (.t 29) (.c (.int .i64 1)), []⟩, ⟨1, (some 30), none, .mov (.t 31), []⟩]) (.ite (.t 30) (.seq (.ops [⟨0, (some 33), none, .fad 1 (.t 1), []⟩, ⟨1, (some 34), none, .ld (.t 33), []⟩, ⟨2, (some 35), none, .fad 2 (.t 1), []⟩, ⟨3, (some 36), none, .ld (.t 35), []⟩, ⟨4, (some 37), none, .call (.c (.func (.func 18) #[] #[])) [.t 34, .t 36], []⟩, ⟨5, (some 32), none, .mov (.t 37), []⟩, ⟨6, (some 38), none, .ext (.t 32) 0, []⟩, ⟨7, (some 39), none, .ext (.t 32) 1, []⟩, ⟨8, (some 6), none, .mov (.t 38), []⟩, ⟨9, (some 7), none, .mov (.t 39), []⟩]) (.seq (.ops [⟨0, (some 41), none, .fad 1 (.t 1), []⟩, ⟨1, (some 42), none, .ld (.t 41), []⟩, ⟨2, (some 43), none, .fad 2 (.t 1), []⟩, ⟨3, (some 44), none, .ld (.t 43), []⟩, ⟨4, (some 45), none, .call (.c (.func (.func 50) #[] #[])) [.t 42, .t 44], []⟩, ⟨5, (some 40), none, .mov (.t 45), []⟩, ⟨6, (some 46), none, .ext (.t 40) 0, []⟩, ⟨7, (some 47), none, .ext (.t 40) 1, []⟩, ⟨8, (some 8), none, .mov (.t 46), []⟩, ⟨9, (some 9), none, .mov (.t 47), []⟩]) (.ops [⟨0, (some 48), none, .mov (.t 6), []⟩, ⟨1, (some 49), none, .mov (.t 8), []⟩, ⟨2, (some 50), none, .bin .eql (.t 48) (.t 49), []⟩, ⟨3, (some 51), none, .mov (.t 50), []⟩, ⟨4, (some 52), (some (51, true)), .mov (.t 7), []⟩, ⟨5, (some 53), (some (51, true)), .mov (.t 9), []⟩, ⟨6, (some 54), (some (51, true)), .bin .eql (.t 52) (.t 53), []⟩, ⟨7, (some 55), none, .pick (.t 51) (.t 54) (.c (.bool false)), []⟩, ⟨8, (some 5), none, .mov (.t 55), []⟩]))) (.seq (.ops [⟨0, (some 57), none, .bin .eql (.t 29) (.c (.int .i64 2)), []⟩, ⟨1, (some 56), none, .mov (.t 57), []⟩]) (.ite (.t 56) (.seq (.ops [⟨0, (some 59), none, .fad 1 (.t 1), []⟩, ⟨1, (some 60), none, .ld (.t 59), []⟩, ⟨2, (some 61), none, .mov (.t 3), []⟩, ⟨3, (some 62), none, .mov (.t 4), []⟩, ⟨4, (some 63), none, .call (.c (.func (.func 16) #[] #[])) [.t 60, .t 61, .t 62], []⟩, ⟨5, (some 58), none, .mov (.t 63), []⟩, ⟨6, (some 64), none, .ext (.t 58) 0, []⟩, ⟨7, (some 65), none, .ext (.t 58) 1, []⟩, ⟨8, (some 10), none, .mov (.t 64), []⟩, ⟨9, (some 11), none, .mov (.t 65), []⟩]) (.seq (.ops [⟨0, (some 67), none, .fad 1 (.t 1), []⟩, ⟨1, (some 68), none, .ld (.t 67), []⟩, ⟨2, (some 69), none, .fad 3 (.t 1), []⟩, ⟨3, (some 70), none, .ld (.t 69), []⟩, ⟨4, (some 71), none, .fad 4 (.t 1), []⟩, ⟨5, (some 72), none, .ld (.t 71), []⟩, ⟨6, (some 73), none, .call (.c (.func (.func 51) #[] #[])) [.t 68, .t 70, .t 72], []⟩, ⟨7, (some 66), none, .mov (.t 73), []⟩, ⟨8, (some 74), none, .ext (.t 66) 0, []⟩, ⟨9, (some 75), none, .ext (.t 66) 1, []⟩, ⟨10, (some 12), none, .mov (.t 74), []⟩, ⟨11, (some 13), none, .mov (.t 75), []⟩]) (.ops [⟨0, (some 76), none, .mov (.t 11), []⟩, ⟨1, (some 77), none, .mov (.t 13), []⟩, ⟨2, (some 78), none, .bin .eql (.t 76) (.t 77), []⟩, ⟨3, (some 79), none, .mov (.t 78), []⟩, ⟨4, (some 80), (some (79, true)), .mov (.t 10), []⟩, ⟨5, (some 81), (some (79, true)), .mov (.t 12), []⟩, ⟨6, (some 82), (some (79, true)), .call (.c (.func (.func 17) #[] #[])) [.t 80, .t 81], []⟩, ⟨7, (some 83), none, .pick (.t 79) (.t 82) (.c (.bool false)), []⟩, ⟨8, (some 5), none, .mov (.t 83), []⟩]))) (.seq (.ops [⟨0, (some 85), none, .bin .eql (.t 29) (.c (.int .i64 3)), []⟩, ⟨1, (some 84), none, .mov (.t 85), []⟩]) (.ite (.t 84) (.seq (.ops [⟨0, (some 87), none, .fad 1 (.t 1), []⟩, ⟨1, (some 88), none, .ld (.t 87), []⟩, ⟨2, (some 89), none, .mov (.t 3), []⟩, ⟨3, (some 90), none, .mov (.t 4), []⟩, ⟨4, (some 91), none, .call (.c (.func (.func 19) #[] #[])) [.t 88, .t 89, .t 90], []⟩, ⟨5, (some 86), none, .mov (.t 91), []⟩, ⟨6, (some 92), none, .ext (.t 86) 0, []⟩, ⟨7, (some 93), none, .ext (.t 86) 1, []⟩, ⟨8, (some 94), none, .ext (.t 86) 2, []⟩, ⟨9, (some 14), none, .mov (.t 92), []⟩, ⟨10, (some 15), none, .mov (.t 93), []⟩, ⟨11, (some 16), none, .mov (.t 94), []⟩]) (.seq (.ops [⟨0, (some 96), none, .fad 1 (.t 1), []⟩, ⟨1, (some 97), none, .ld (.t 96), []⟩, ⟨2, (some 98), none, .fad 3 (.t 1), []⟩, ⟨3, (some 99), none, .ld (.t 98), []⟩, ⟨4, (some 100), none, .fad 4 (.t 1), []⟩, ⟨5, (some 101), none, .ld (.t 100), []⟩, ⟨6, (some 102), none, .call (.c (.func (.func 52) #[] #[])) [.t 97, .t 99, .t 101], []⟩, ⟨7, (some 95), none, .mov (.t 102), []⟩, ⟨8, (some 103), none, .ext (.t 95) 0, []⟩, ⟨9, (some 104), none, .ext (.t 95) 1, []⟩, ⟨10, (some 105), none, .ext (.t 95) 2, []⟩, ⟨11, (some 17), none, .mov (.t 103), []⟩, ⟨12, (some 18), none, .mov (.t 104), []⟩, ⟨13, (some 19), none, .mov (.t 105), []⟩]) (.ops [⟨0, (some 106), none, .mov (.t 16), []⟩, ⟨1, (some 107), none, .mov (.t 19), []⟩, ⟨2, (some 108), none, .bin .eql (.t 106) (.t 107), []⟩, ⟨3, (some 109), none, .mov (.t 108), []⟩, ⟨4, (some 110), (some (109, true)), .mov (.t 14), []⟩, ⟨5, (some 111), (some (109, true)), .mov (.t 17), []⟩, ⟨6, (some 112), (some (109, true)), .call (.c (.func (.func 17) #[] #[])) [.t 110, .t 111], []⟩, ⟨7, (some 113), none, .pick (.t 109) (.t 112) (.c (.bool false)), []⟩, ⟨8, (some 114), none, .mov (.t 113), []⟩, ⟨9, (some 115), (some (114, true)), .mov (.t 15), []⟩, ⟨10, (some 116), (some (114, true)), .mov (.t 18), []⟩, ⟨11, (some 117), (some (114, true)), .call (.c (.func (.func 20) #[] #[])) [.t 115, .t 116], []⟩, ⟨12, (some 118), none, .pick (.t 114) (.t 117) (.c (.bool false)), []⟩, ⟨13, (some 5), none, .mov (.t 118), []⟩]))) .skip)))))))) (.seq (.ops [⟨0, (some 119), none, .mov (.t 5), []⟩, ⟨1, (some 120), none, .mov (.t 119), []⟩, ⟨2, (some 121), (some (120, true)), .mov (.t 3), []⟩, ⟨3, (some 122), (some (120, true)), .fad 3 (.t 1), []⟩, ⟨4, (some 123), (some (120, true)), .ld (.t 122), []⟩, ⟨5, (some 124), (some (120, true)), .call (.c (.func (.func 20) #[] #[])) [.t 121, .t 123], []⟩, ⟨6, (some 125), none, .pick (.t 120) (.t 124) (.c (.bool false)), []⟩, ⟨7, (some 126), none, .mov (.t 125), []⟩, ⟨8, (some 127), (some (126, true)), .mov (.t 4), []⟩, ⟨9, (some 128), (some (126, true)), .fad 4 (.t 1), []⟩, ⟨10, (some 129), (some (126, true)), .ld (.t 128), []⟩, ⟨11, (some 130), (some (126, true)), .call (.c (.func (.func 17) #[] #[])) [.t 127, .t 129], []⟩, ⟨12, (some 131), none, .pick (.t 126) (.t 130) (.c (.bool false)), []⟩, ⟨13, (some 2), none, .mov (.t 131), []⟩]) .ret)))))
attribute [irreducible] c_culletlaw19_plays
theorem run_culletlaw19_plays {args : List Value} {w : World} {K : Value → World → Prop} (hn : args.length ≤ 132) (h : WP Try.prog c_culletlaw19_plays (endQ [.t 2] K) (initT args) w) : CallV Try.prog 14 args w K :=
  call_of follows Try.func14 (by kernel_rfl) (by kernel_rfl) hn h
end Go.Proofs.Ytbaljbadlfopgaa.Fw
namespace Go.Proofs.Ytbaljbadlfopgaa.Fw
open Go Go.Fw
theorem co_eq {A B : List (El 8)} (hl : A.length = B.length) (h : ∀ i, i < A.length → (co A).c i = (co B).c i) : A = B := List.ext_getElem hl fun i h1 h2 => by
  rw [← co_get A h1, ← co_get B h2]; exact h i h1
def bad4 (k : Int) (P : List Int) : Prop := k < 1 ∨ k > 256 ∨ P.length > 256
/-- What Syndromes is to answer. -/
def SynR (k : Int) (P : List Int) (Y : List (El 8)) (e : Int) (A : List (El 8)) : Prop :=
  (bad4 k P ∧ e = 4 ∧ A = []) ∨ (¬ bad4 k P ∧ ¬ asc P P.length ∧ e = 110 ∧ A = []) ∨ (¬ bad4 k P ∧ asc P P.length ∧ Y.length ≠ P.length ∧ e = 6 ∧ A = []) ∨
  (¬ bad4 k P ∧ asc P P.length ∧ Y.length = P.length ∧ (P.length : Int) < k ∧ e = 9 ∧ A = []) ∨
  (¬ bad4 k P ∧ asc P P.length ∧ Y.length = P.length ∧ ¬ (P.length : Int) < k ∧ e = 0 ∧ A.length = P.length - k.toNat ∧ ∀ i, i < A.length → (co A).c i = (nw (nth (xsP P)) (nth Y) 0 P.length).c (k.toNat + i))
theorem SynR.uniq {k : Int} {P : List Int} {Y : List (El 8)} {e e' : Int} {A A' : List (El 8)} (h : SynR k P Y e A) (h' : SynR k P Y e' A') : e = e' ∧ A = A' := by
  rcases h with ⟨a, rfl, rfl⟩ | ⟨a, b, rfl, rfl⟩ | ⟨a, b, c, rfl, rfl⟩ | ⟨a, b, c, d, rfl, rfl⟩ | ⟨a, b, c, d, rfl, l, hc⟩ <;> rcases h' with ⟨a', rfl, rfl⟩ | ⟨a', b', rfl, rfl⟩ | ⟨a', b', c', rfl, rfl⟩ | ⟨a', b', c', d', rfl, rfl⟩ | ⟨a', b', c', d', rfl, l', hc'⟩ <;>
    first
    | exact ⟨rfl, rfl⟩
    | exact absurd a a'
    | exact absurd a' a
    | exact absurd b b'
    | exact absurd b' b
    | exact absurd c c'
    | exact absurd c' c
    | exact absurd d d'
    | exact absurd d' d
    | exact ⟨rfl, co_eq (by omega) fun i hi => by rw [hc i hi, hc' i (by omega)]⟩
/-- What Column is to answer. -/
def ColR (k : Int) (P : List Int) (Y : List (El 8)) (e : Int) (A : List (El 8)) (W : List Int) : Prop :=
  (bad4 k P ∧ e = 4 ∧ A = [] ∧ W = []) ∨ (¬ bad4 k P ∧ ¬ asc P P.length ∧ e = 110 ∧ A = [] ∧ W = []) ∨ (¬ bad4 k P ∧ asc P P.length ∧ Y.length ≠ P.length ∧ e = 6 ∧ A = [] ∧ W = []) ∨
  (¬ bad4 k P ∧ asc P P.length ∧ Y.length = P.length ∧ (P.length : Int) < k ∧ e = 9 ∧ A = [] ∧ W = []) ∨
  (¬ bad4 k P ∧ asc P P.length ∧ Y.length = P.length ∧ ¬ (P.length : Int) < k ∧ ((e = 0 ∧ ∃ g, A = (xsP P).map (evl g) ∧ W = (offP g P Y).map (fun j => P.getD j 0) ∧ tr g = g ∧ g.length ≤ k.toNat ∧ (offP g P Y).length ≤ (P.length - k.toNat) / 2) ∨ (e = 190 ∧ A = [] ∧ W = [] ∧ ∀ g, tr g = g → g.length ≤ k.toNat → (P.length - k.toNat) / 2 < (offP g P Y).length)))
theorem ColR.uniq {k : Int} {P : List Int} {Y : List (El 8)} {e e' : Int} {A A' : List (El 8)} {W W' : List Int} (h : ColR k P Y e A W) (h' : ColR k P Y e' A' W') : e = e' ∧ A = A' ∧ W = W' := by
  rcases h with ⟨a, rfl, rfl, rfl⟩ | ⟨a, b, rfl, rfl, rfl⟩ | ⟨a, b, c, rfl, rfl, rfl⟩ | ⟨a, b, c, d, rfl, rfl, rfl⟩ | ⟨a, b, c, d, hx⟩ <;> rcases h' with ⟨a', rfl, rfl, rfl⟩ | ⟨a', b', rfl, rfl, rfl⟩ | ⟨a', b', c', rfl, rfl, rfl⟩ | ⟨a', b', c', d', rfl, rfl, rfl⟩ | ⟨a', b', c', d', hx'⟩ <;>
    first
    | exact ⟨rfl, rfl, rfl⟩
    | exact absurd a a'
    | exact absurd a' a
    | exact absurd b b'
    | exact absurd b' b
    | exact absurd c c'
    | exact absurd c' c
    | exact absurd d d'
    | exact absurd d' d
    | skip
  unfold bad4 at a
  rcases hx with ⟨rfl, g, rfl, rfl, tg, hg, ho⟩ | ⟨rfl, rfl, rfl, hfar⟩ <;> rcases hx' with ⟨rfl, g', rfl, rfl, tg', hg', ho'⟩ | ⟨rfl, rfl, rfl, hfar'⟩
  · have e := offP_uniq b (by omega) tg tg' hg hg' ho ho'
    subst e
    exact ⟨rfl, rfl, rfl⟩
  · have := hfar' g tg hg; omega
  · have := hfar g' tg' hg'; omega
  · exact ⟨rfl, rfl, rfl⟩
theorem mend_Syndromes_R (w : World) (k : Int) (s1 s2 : Value) (P : List Int) (Y : List (El 8)) (h1 : Sl w s1 P) (h2 : Sl w s2 Y) (hP : P.length ≤ 70368744175616) (hY : Y.length ≤ 140737488355328) :
    CallV Try.prog 16 [.int .i64 k, s1, s2] w fun v w' => RowKit.Below w.heap.size w w' ∧ ∃ (e : Int) (s : Value) (A : List (El 8)), v = .tuple #[s, .int .i64 e] ∧ Sl w' s A ∧ A.length ≤ 256 ∧ SynR k P Y e A := by
  refine (mend_Syndromes_spec w k s1 s2 P Y h1 h2 hP hY).mono ?_
  rintro v w' ⟨B, ⟨g1, rfl⟩ | ⟨g1, g2, rfl⟩ | ⟨g1, g2, g3, rfl⟩ | ⟨g1, g2, g3, g4, rfl⟩ | ⟨g1, g2, g3, g4, s, S, rfl, os, lS, hS⟩⟩
  · exact ⟨B, _, _, [], rfl, Sl.nil _, by simp, Or.inl ⟨g1, rfl, rfl⟩⟩
  · exact ⟨B, _, _, [], rfl, Sl.nil _, by simp, Or.inr (Or.inl ⟨g1, g2, rfl, rfl⟩)⟩
  · exact ⟨B, _, _, [], rfl, Sl.nil _, by simp, Or.inr (Or.inr (Or.inl ⟨g1, g2, g3, rfl, rfl⟩))⟩
  · exact ⟨B, _, _, [], rfl, Sl.nil _, by simp, Or.inr (Or.inr (Or.inr (Or.inl ⟨g1, g2, g3, g4, rfl, rfl⟩)))⟩
  · exact ⟨B, _, s, S, rfl, os.sl, by omega, Or.inr (Or.inr (Or.inr (Or.inr ⟨g1, g2, g3, g4, rfl, lS, hS (xsP P) (xsP_len P) (xsP_val g2)⟩)))⟩
theorem culletref19_Syndromes_R (w : World) (k : Int) (s1 s2 : Value) (P : List Int) (Y : List (El 8)) (h1 : Sl w s1 P) (h2 : Sl w s2 Y) (hP : P.length ≤ 70368744175616) (hY : Y.length ≤ 140737488355328) :
    CallV Try.prog 51 [.int .i64 k, s1, s2] w fun v w' => RowKit.Below w.heap.size w w' ∧ ∃ (e : Int) (s : Value) (A : List (El 8)), v = .tuple #[s, .int .i64 e] ∧ Sl w' s A ∧ A.length ≤ 256 ∧ SynR k P Y e A := by
  refine (culletref19_Syndromes_spec w k s1 s2 P Y h1 h2 hP hY).mono ?_
  rintro v w' ⟨B, ⟨g1, rfl⟩ | ⟨g1, g2, rfl⟩ | ⟨g1, g2, g3, rfl⟩ | ⟨g1, g2, g3, g4, rfl⟩ | ⟨g1, g2, g3, g4, s, S, rfl, os, lS, hS⟩⟩
  · exact ⟨B, _, _, [], rfl, Sl.nil _, by simp, Or.inl ⟨g1, rfl, rfl⟩⟩
  · exact ⟨B, _, _, [], rfl, Sl.nil _, by simp, Or.inr (Or.inl ⟨g1, g2, rfl, rfl⟩)⟩
  · exact ⟨B, _, _, [], rfl, Sl.nil _, by simp, Or.inr (Or.inr (Or.inl ⟨g1, g2, g3, rfl, rfl⟩))⟩
  · exact ⟨B, _, _, [], rfl, Sl.nil _, by simp, Or.inr (Or.inr (Or.inr (Or.inl ⟨g1, g2, g3, g4, rfl, rfl⟩)))⟩
  · exact ⟨B, _, s, S, rfl, os.sl, by omega, Or.inr (Or.inr (Or.inr (Or.inr ⟨g1, g2, g3, g4, rfl, lS, hS⟩)))⟩
theorem offP_len (g : List (El 8)) (P : List Int) (Y : List (El 8)) : (offP g P Y).length ≤ P.length := by
  unfold offP offs
  have := List.length_filter_le (fun j => !decide (evl g (nth (xsP P) j) = nth Y j)) (List.range P.length)
  rwa [List.length_range] at this
theorem mend_Column_R (w : World) (k : Int) (s1 s2 : Value) (P : List Int) (Y : List (El 8)) (h1 : Sl w s1 P) (h2 : Sl w s2 Y) (hP : P.length ≤ 70368744175616) (hY : Y.length ≤ 140737488355328) :
    CallV Try.prog 19 [.int .i64 k, s1, s2] w fun v w' => RowKit.Below w.heap.size w w' ∧ ∃ (e : Int) (s so : Value) (A : List (El 8)) (W : List Int), v = .tuple #[s, so, .int .i64 e] ∧ Sl w' s A ∧ Sl w' so W ∧ A.length ≤ 256 ∧ W.length ≤ 256 ∧ ColR k P Y e A W := by
  refine (mend_Column_spec w k s1 s2 P Y h1 h2 hP hY).mono ?_
  rintro v w' ⟨B, ⟨g1, rfl⟩ | ⟨g1, g2, rfl⟩ | ⟨g1, g2, g3, rfl⟩ | ⟨g1, g2, g3, g4, rfl⟩ | ⟨g1, g2, g3, g4, ⟨sf, so, g, rfl, of, oo, tg, hg, ho⟩ | ⟨rfl, hfar⟩⟩⟩
  · exact ⟨B, _, _, _, [], [], rfl, Sl.nil _, Sl.nil _, by simp, by simp, Or.inl ⟨g1, rfl, rfl, rfl⟩⟩
  · exact ⟨B, _, _, _, [], [], rfl, Sl.nil _, Sl.nil _, by simp, by simp, Or.inr (Or.inl ⟨g1, g2, rfl, rfl, rfl⟩)⟩
  · exact ⟨B, _, _, _, [], [], rfl, Sl.nil _, Sl.nil _, by simp, by simp, Or.inr (Or.inr (Or.inl ⟨g1, g2, g3, rfl, rfl, rfl⟩))⟩
  · exact ⟨B, _, _, _, [], [], rfl, Sl.nil _, Sl.nil _, by simp, by simp, Or.inr (Or.inr (Or.inr (Or.inl ⟨g1, g2, g3, g4, rfl, rfl, rfl⟩)))⟩
  · exact ⟨B, _, sf, so, _, _, rfl, of.sl, oo.sl, by rw [List.length_map, xsP_len]; omega, by rw [List.length_map]; have := offP_len g P Y; omega, Or.inr (Or.inr (Or.inr (Or.inr ⟨g1, g2, g3, g4, Or.inl ⟨rfl, g, rfl, rfl, tg, hg, ho⟩⟩)))⟩
  · exact ⟨B, _, _, _, [], [], rfl, Sl.nil _, Sl.nil _, by simp, by simp, Or.inr (Or.inr (Or.inr (Or.inr ⟨g1, g2, g3, g4, Or.inr ⟨rfl, rfl, rfl, hfar⟩⟩)))⟩
theorem culletref19_Column_R (w : World) (k : Int) (s1 s2 : Value) (P : List Int) (Y : List (El 8)) (h1 : Sl w s1 P) (h2 : Sl w s2 Y) (hP : P.length ≤ 70368744175616) (hY : Y.length ≤ 140737488355328) :
    CallV Try.prog 52 [.int .i64 k, s1, s2] w fun v w' => RowKit.Below w.heap.size w w' ∧ ∃ (e : Int) (s so : Value) (A : List (El 8)) (W : List Int), v = .tuple #[s, so, .int .i64 e] ∧ Sl w' s A ∧ Sl w' so W ∧ A.length ≤ 256 ∧ W.length ≤ 256 ∧ ColR k P Y e A W := by
  refine (culletref19_Column_spec w k s1 s2 P Y h1 h2 hP hY).mono ?_
  rintro v w' ⟨B, ⟨g1, rfl⟩ | ⟨g1, g2, rfl⟩ | ⟨g1, g2, g3, rfl⟩ | ⟨g1, g2, g3, g4, rfl⟩ | ⟨g1, g2, g3, g4, ⟨sf, so, g, rfl, of, oo, tg, hg, ho⟩ | ⟨rfl, hfar⟩⟩⟩
  · exact ⟨B, _, _, _, [], [], rfl, Sl.nil _, Sl.nil _, by simp, by simp, Or.inl ⟨g1, rfl, rfl, rfl⟩⟩
  · exact ⟨B, _, _, _, [], [], rfl, Sl.nil _, Sl.nil _, by simp, by simp, Or.inr (Or.inl ⟨g1, g2, rfl, rfl, rfl⟩)⟩
  · exact ⟨B, _, _, _, [], [], rfl, Sl.nil _, Sl.nil _, by simp, by simp, Or.inr (Or.inr (Or.inl ⟨g1, g2, g3, rfl, rfl, rfl⟩))⟩
  · exact ⟨B, _, _, _, [], [], rfl, Sl.nil _, Sl.nil _, by simp, by simp, Or.inr (Or.inr (Or.inr (Or.inl ⟨g1, g2, g3, g4, rfl, rfl, rfl⟩)))⟩
  · exact ⟨B, _, sf, so, _, _, rfl, of.sl, oo.sl, by rw [List.length_map, xsP_len]; omega, by rw [List.length_map]; have := offP_len g P Y; omega, Or.inr (Or.inr (Or.inr (Or.inr ⟨g1, g2, g3, g4, Or.inl ⟨rfl, g, rfl, rfl, tg, hg, ho⟩⟩)))⟩
  · exact ⟨B, _, _, _, [], [], rfl, Sl.nil _, Sl.nil _, by simp, by simp, Or.inr (Or.inr (Or.inr (Or.inr ⟨g1, g2, g3, g4, Or.inr ⟨rfl, rfl, rfl, hfar⟩⟩)))⟩
/-- One call over points. -/
def OpM (w : World) (vs : List Value) : Prop := ∃ (kd k n : Int) (s1 s2 : Value) (P : List Int) (Y : List (El 8)), vs = [.int .i64 kd, .int .i64 k, .int .i64 n, s1, s2] ∧ Sl w s1 P ∧ Sl w s2 Y ∧ P.length ≤ 17592186043904 ∧ Y.length ≤ 140737488351232 ∧ (-9223372036854775808 ≤ k ∧ k ≤ 9223372036854775807) ∧ (-9223372036854775808 ≤ n ∧ n ≤ 9223372036854775807)
theorem OpM.up {w w' : World} {vs : List Value} (h : OpM w vs) (hB : RowKit.Below w.heap.size w w') : OpM w' vs := by
  obtain ⟨kd, k, n, s1, s2, P, Y, e, h1, h2, h3⟩ := h
  exact ⟨kd, k, n, s1, s2, P, Y, e, h1.up hB, h2.up hB, h3⟩
set_option maxHeartbeats 4000000 in
theorem culletlaw19_plays_spec (w : World) (kd k n : Int) (s1 s2 : Value) (P : List Int) (Y : List (El 8)) (h1 : Sl w s1 P) (h2 : Sl w s2 Y) (hP : P.length ≤ 17592186043904) (hY : Y.length ≤ 140737488355328) (hk : -9223372036854775808 ≤ k ∧ k ≤ 9223372036854775807) (hn : -9223372036854775808 ≤ n ∧ n ≤ 9223372036854775807) :
    CallV Try.prog 14 [.agg #[.int .i64 kd, .int .i64 k, .int .i64 n, s1, s2]] w fun v w' => v = .bool true ∧ RowKit.Below w.heap.size w w' := by
  refine run_culletlaw19_plays (by simp) ?_
  simp only [c_culletlaw19_plays, WS, List.getElem_cons_zero, List.getElem_cons_succ, Option.isNone_some, Option.isNone_none, List.getD_cons_zero, List.getD_cons_succ, I.at, atL, atO, atP, evp, evs, retV, ↓reduceIte, Nat.reduceEqDiff, reduceCtorEq]
  refine X_box fun b w1 hrb hlb hB => ?_
  have hrb : Row w1 b [.int .i64 kd, .int .i64 k, .int .i64 n, s1, s2] := hrb
  have B := hB
  have h1 := h1.up hB
  have h2 := h2.up hB
  clear hB hlb
  simp (maxSteps := 1000000) (disch := omega) only [WS, List.getElem_cons_zero, List.getElem_cons_succ, Option.isNone_some, Option.isNone_none, List.getD_cons_zero, List.getD_cons_succ, I.at, atL, atO, atP, evp, evs, retV, ↓reduceIte, Nat.reduceEqDiff, reduceCtorEq, AS]
  refine X_bslE fun p0 w2 op hB0 => ?_
  simp (maxSteps := 1000000) (disch := omega) only [WS, List.getElem_cons_zero, List.getElem_cons_succ, Option.isNone_some, Option.isNone_none, List.getD_cons_zero, List.getD_cons_succ, I.at, atL, atO, atP, evp, evs, retV, ↓reduceIte, Nat.reduceEqDiff, reduceCtorEq, AS, (hrb.up hB0).Xld (show 3 < _ by simp)]
  refine op.Xapp (h1.up hB0) hB0 hB0.size (by simp only [maxBytes]; omega) (by decide) (by omega) fun c1 w3 oc hB _ => ?_
  have oc := oc.sl
  have h1 := h1.up hB
  have h2 := h2.up hB
  have hrb := hrb.up hB
  have B := B.trans (hB.mono B.size)
  clear hB
  clear hB0 op
  simp (maxSteps := 1000000) (disch := omega) only [WS, List.getElem_cons_zero, List.getElem_cons_succ, Option.isNone_some, Option.isNone_none, List.getD_cons_zero, List.getD_cons_succ, I.at, atL, atO, atP, evp, evs, retV, ↓reduceIte, Nat.reduceEqDiff, reduceCtorEq, AS]
  refine X_bslE fun p1 w4 op hB0 => ?_
  simp (maxSteps := 1000000) (disch := omega) only [WS, List.getElem_cons_zero, List.getElem_cons_succ, Option.isNone_some, Option.isNone_none, List.getD_cons_zero, List.getD_cons_succ, I.at, atL, atO, atP, evp, evs, retV, ↓reduceIte, Nat.reduceEqDiff, reduceCtorEq, AS, (hrb.up hB0).Xld (show 4 < _ by simp)]
  refine op.Xapp (h2.up hB0) hB0 hB0.size (by simp only [maxBytes]; omega) (by decide) (by omega) fun c2 w5 od hB _ => ?_
  have od := od.sl
  have h1 := h1.up hB
  have h2 := h2.up hB
  have hrb := hrb.up hB
  have oc := oc.up hB
  have B := B.trans (hB.mono B.size)
  clear hB
  clear hB0 op
  simp (maxSteps := 1000000) (disch := omega) only [WS, List.getElem_cons_zero, List.getElem_cons_succ, Option.isNone_some, Option.isNone_none, List.getD_cons_zero, List.getD_cons_succ, I.at, atL, atO, atP, evp, evs, retV, ↓reduceIte, Nat.reduceEqDiff, reduceCtorEq, AS, hrb.Xld (show 0 < _ by simp)]
  refine iteW_cut (fun t w' => t 1 = .pointer (some ⟨b, 0, none⟩) ∧ t 3 = c1 ∧ t 4 = c2 ∧ t 5 = .bool true ∧ RowKit.Below w5.heap.size w5 w') ?_ fun t w6 hQ => ?_
  · by_cases k1 : kd = 1
    · simp (maxSteps := 1000000) (disch := omega) only [WS, List.getElem_cons_zero, List.getElem_cons_succ, Option.isNone_some, Option.isNone_none, List.getD_cons_zero, List.getD_cons_succ, I.at, atL, atO, atP, evp, evs, retV, ↓reduceIte, Nat.reduceEqDiff, reduceCtorEq, AS, hrb.Xld (show 1 < _ by simp), hrb.Xld (show 2 < _ by simp)]
      refine X_call0 ((mend_Radius_spec w5 k n hk hn).mono ?_)
      rintro va wa ⟨rfl, ha⟩
      obtain ⟨r1, e1, rfl, hr1⟩ : ∃ (r e : Int), va = .tuple #[.int .i64 r, .int .i64 e] ∧ (((k < 1 ∨ k > 256 ∨ n > 256) ∧ r = 0 ∧ e = 4) ∨ (¬ (k < 1 ∨ k > 256 ∨ n > 256) ∧ n < k ∧ r = 0 ∧ e = 9) ∨ (¬ (k < 1 ∨ k > 256 ∨ n > 256) ∧ ¬ n < k ∧ r = (n - k) / 2 ∧ e = 0)) := by
        rcases ha with ⟨g, rfl⟩ | ⟨g, g2, rfl⟩ | ⟨g, g2, rfl⟩
        · exact ⟨_, _, rfl, Or.inl ⟨g, rfl, rfl⟩⟩
        · exact ⟨_, _, rfl, Or.inr (Or.inl ⟨g, g2, rfl, rfl⟩)⟩
        · exact ⟨_, _, rfl, Or.inr (Or.inr ⟨g, g2, rfl, rfl⟩)⟩
      simp (maxSteps := 1000000) (disch := omega) only [WS, List.getElem_cons_zero, List.getElem_cons_succ, Option.isNone_some, Option.isNone_none, List.getD_cons_zero, List.getD_cons_succ, I.at, atL, atO, atP, evp, evs, retV, ↓reduceIte, Nat.reduceEqDiff, reduceCtorEq, AS, hrb.Xld (show 1 < _ by simp), hrb.Xld (show 2 < _ by simp)]
      refine X_call0 ((culletref19_Radius_spec wa k n hk hn).mono ?_)
      rintro vb wb ⟨rfl, hb⟩
      obtain ⟨r2, e2, rfl, hr2⟩ : ∃ (r e : Int), vb = .tuple #[.int .i64 r, .int .i64 e] ∧ (((k < 1 ∨ k > 256 ∨ n > 256) ∧ r = 0 ∧ e = 4) ∨ (¬ (k < 1 ∨ k > 256 ∨ n > 256) ∧ n < k ∧ r = 0 ∧ e = 9) ∨ (¬ (k < 1 ∨ k > 256 ∨ n > 256) ∧ ¬ n < k ∧ r = (n - k) / 2 ∧ e = 0)) := by
        rcases hb with ⟨g, rfl⟩ | ⟨g, g2, rfl⟩ | ⟨g, g2, rfl⟩
        · exact ⟨_, _, rfl, Or.inl ⟨g, rfl, rfl⟩⟩
        · exact ⟨_, _, rfl, Or.inr (Or.inl ⟨g, g2, rfl, rfl⟩)⟩
        · exact ⟨_, _, rfl, Or.inr (Or.inr ⟨g, g2, rfl, rfl⟩)⟩
      obtain ⟨rfl, rfl⟩ : r1 = r2 ∧ e1 = e2 := by
        rcases hr1 with ⟨a1, rfl, rfl⟩ | ⟨a1, a2, rfl, rfl⟩ | ⟨a1, a2, rfl, rfl⟩ <;> rcases hr2 with ⟨b1, rfl, rfl⟩ | ⟨b1, b2, rfl, rfl⟩ | ⟨b1, b2, rfl, rfl⟩ <;> first | exact ⟨rfl, rfl⟩ | omega
      simp (maxSteps := 1000000) (disch := omega) only [WS, List.getElem_cons_zero, List.getElem_cons_succ, Option.isNone_some, Option.isNone_none, List.getD_cons_zero, List.getD_cons_succ, I.at, atL, atO, atP, evp, evs, retV, ↓reduceIte, Nat.reduceEqDiff, reduceCtorEq, AS, decide_eq_true rfl]
      exact RowKit.Below.refl _ _
    by_cases k2 : kd = 2
    · simp (maxSteps := 1000000) (disch := omega) only [WS, List.getElem_cons_zero, List.getElem_cons_succ, Option.isNone_some, Option.isNone_none, List.getD_cons_zero, List.getD_cons_succ, I.at, atL, atO, atP, evp, evs, retV, ↓reduceIte, Nat.reduceEqDiff, reduceCtorEq, AS, hrb.Xld (show 1 < _ by simp)]
      refine X_call0 ((mend_Syndromes_R w5 k c1 c2 P Y oc od (by omega) (by omega)).mono ?_)
      rintro _ w6 ⟨B6, e1, sa, A, rfl, oA, lA, hA⟩
      have hrb6 := hrb.up B6
      simp (maxSteps := 1000000) (disch := omega) only [WS, List.getElem_cons_zero, List.getElem_cons_succ, Option.isNone_some, Option.isNone_none, List.getD_cons_zero, List.getD_cons_succ, I.at, atL, atO, atP, evp, evs, retV, ↓reduceIte, Nat.reduceEqDiff, reduceCtorEq, AS, hrb6.Xld (show 1 < _ by simp), hrb6.Xld (show 3 < _ by simp), hrb6.Xld (show 4 < _ by simp)]
      refine X_call0 ((culletref19_Syndromes_R w6 k s1 s2 P Y (h1.up B6) (h2.up B6) (by omega) (by omega)).mono ?_)
      rintro _ w7 ⟨B7, e2, sb, A2, rfl, oA2, lA2, hA2⟩
      obtain ⟨rfl, rfl⟩ := hA.uniq hA2
      simp (maxSteps := 1000000) (disch := omega) only [WS, List.getElem_cons_zero, List.getElem_cons_succ, Option.isNone_some, Option.isNone_none, List.getD_cons_zero, List.getD_cons_succ, I.at, atL, atO, atP, evp, evs, retV, ↓reduceIte, Nat.reduceEqDiff, reduceCtorEq, AS, decide_eq_true rfl]
      refine X_call0 ((culletlaw19_sameBytes_spec w7 sa sb A A (oA.up B7) oA2 (by omega) (by omega)).mono ?_)
      rintro _ w8 ⟨rfl, hk8⟩
      simp (maxSteps := 1000000) (disch := omega) only [WS, List.getElem_cons_zero, List.getElem_cons_succ, Option.isNone_some, Option.isNone_none, List.getD_cons_zero, List.getD_cons_succ, I.at, atL, atO, atP, evp, evs, retV, ↓reduceIte, Nat.reduceEqDiff, reduceCtorEq, AS, decide_eq_true rfl]
      exact B6.trans ((B7.mono B6.size).trans (hk8.1.mono (by have := B6.size; have := B7.size; omega)))
    by_cases k3 : kd = 3
    · simp (maxSteps := 1000000) (disch := omega) only [WS, List.getElem_cons_zero, List.getElem_cons_succ, Option.isNone_some, Option.isNone_none, List.getD_cons_zero, List.getD_cons_succ, I.at, atL, atO, atP, evp, evs, retV, ↓reduceIte, Nat.reduceEqDiff, reduceCtorEq, AS, hrb.Xld (show 1 < _ by simp)]
      refine X_call0 ((mend_Column_R w5 k c1 c2 P Y oc od (by omega) (by omega)).mono ?_)
      rintro _ w6 ⟨B6, e1, sa, so, A, W1, rfl, oA, oW, lA, lW, hA⟩
      have hrb6 := hrb.up B6
      simp (maxSteps := 1000000) (disch := omega) only [WS, List.getElem_cons_zero, List.getElem_cons_succ, Option.isNone_some, Option.isNone_none, List.getD_cons_zero, List.getD_cons_succ, I.at, atL, atO, atP, evp, evs, retV, ↓reduceIte, Nat.reduceEqDiff, reduceCtorEq, AS, hrb6.Xld (show 1 < _ by simp), hrb6.Xld (show 3 < _ by simp), hrb6.Xld (show 4 < _ by simp)]
      refine X_call0 ((culletref19_Column_R w6 k s1 s2 P Y (h1.up B6) (h2.up B6) (by omega) (by omega)).mono ?_)
      rintro _ w7 ⟨B7, e2, sb, so2, A2, W2, rfl, oA2, oW2, lA2, lW2, hA2⟩
      obtain ⟨rfl, rfl, rfl⟩ := hA.uniq hA2
      simp (maxSteps := 1000000) (disch := omega) only [WS, List.getElem_cons_zero, List.getElem_cons_succ, Option.isNone_some, Option.isNone_none, List.getD_cons_zero, List.getD_cons_succ, I.at, atL, atO, atP, evp, evs, retV, ↓reduceIte, Nat.reduceEqDiff, reduceCtorEq, AS, decide_eq_true rfl]
      refine X_call0 ((culletlaw19_sameBytes_spec w7 sa sb A A (oA.up B7) oA2 (by omega) (by omega)).mono ?_)
      rintro _ w8 ⟨rfl, hk8⟩
      simp (maxSteps := 1000000) (disch := omega) only [WS, List.getElem_cons_zero, List.getElem_cons_succ, Option.isNone_some, Option.isNone_none, List.getD_cons_zero, List.getD_cons_succ, I.at, atL, atO, atP, evp, evs, retV, ↓reduceIte, Nat.reduceEqDiff, reduceCtorEq, AS, decide_eq_true rfl]
      refine X_call0 ((culletlaw19_sameInts_spec w8 so so2 W1 W1 ((oW.up B7).up hk8.1) (oW2.up hk8.1) (by omega) (by omega)).mono ?_)
      rintro _ w9 ⟨rfl, hk9⟩
      simp (maxSteps := 1000000) (disch := omega) only [WS, List.getElem_cons_zero, List.getElem_cons_succ, Option.isNone_some, Option.isNone_none, List.getD_cons_zero, List.getD_cons_succ, I.at, atL, atO, atP, evp, evs, retV, ↓reduceIte, Nat.reduceEqDiff, reduceCtorEq, AS, decide_eq_true rfl]
      exact B6.trans ((B7.mono B6.size).trans ((hk8.1.mono (by have := B6.size; have := B7.size; omega)).trans (hk9.1.mono (by have := B6.size; have := B7.size; have := hk8.1.size; omega))))
    simp (maxSteps := 1000000) (disch := omega) only [WS, List.getElem_cons_zero, List.getElem_cons_succ, Option.isNone_some, Option.isNone_none, List.getD_cons_zero, List.getD_cons_succ, I.at, atL, atO, atP, evp, evs, retV, ↓reduceIte, Nat.reduceEqDiff, reduceCtorEq, AS]
    exact RowKit.Below.refl _ _
  obtain ⟨t1, t3, t4, t5, hB⟩ := hQ
  have h1 := h1.up hB
  have h2 := h2.up hB
  have hrb := hrb.up hB
  have oc := oc.up hB
  have od := od.up hB
  have B := B.trans (hB.mono B.size)
  clear hB
  simp (maxSteps := 1000000) (disch := omega) only [WS, List.getElem_cons_zero, List.getElem_cons_succ, Option.isNone_some, Option.isNone_none, List.getD_cons_zero, List.getD_cons_succ, I.at, atL, atO, atP, evp, evs, retV, ↓reduceIte, Nat.reduceEqDiff, reduceCtorEq, AS, t1, t3, t4, t5, hrb.Xld (show 3 < _ by simp)]
  refine X_call0 ((culletlaw19_sameInts_spec w6 c1 s1 P P oc h1 (by omega) (by omega)).mono ?_)
  rintro _ w7 ⟨rfl, hk7⟩
  have hB := hk7.1
  clear hk7
  have h2 := h2.up hB
  have hrb := hrb.up hB
  have od := od.up hB
  have B := B.trans (hB.mono B.size)
  clear hB
  simp (maxSteps := 1000000) (disch := omega) only [WS, List.getElem_cons_zero, List.getElem_cons_succ, Option.isNone_some, Option.isNone_none, List.getD_cons_zero, List.getD_cons_succ, I.at, atL, atO, atP, evp, evs, retV, ↓reduceIte, Nat.reduceEqDiff, reduceCtorEq, AS, decide_eq_true rfl, t1, t4, hrb.Xld (show 4 < _ by simp)]
  refine X_call0 ((culletlaw19_sameBytes_spec w7 c2 s2 Y Y od h2 (by omega) (by omega)).mono ?_)
  rintro _ w8 ⟨rfl, hk8⟩
  have hB := hk8.1
  clear hk8
  have B := B.trans (hB.mono B.size)
  clear hB
  simp (maxSteps := 1000000) (disch := omega) only [WS, List.getElem_cons_zero, List.getElem_cons_succ, Option.isNone_some, Option.isNone_none, List.getD_cons_zero, List.getD_cons_succ, I.at, atL, atO, atP, evp, evs, retV, ↓reduceIte, Nat.reduceEqDiff, reduceCtorEq, AS, decide_eq_true rfl]
  exact B
end Go.Proofs.Ytbaljbadlfopgaa.Fw

set_option linter.unusedVariables false
set_option linter.unusedSimpArgs false
set_option maxRecDepth 100000
set_option maxHeartbeats 1000000
namespace Go.Proofs.Ytbaljbadlfopgaa.Fw
open Go Go.Fw Go.Proofs
attribute [local irreducible] stepI
def c_culletlaw19_MendColumns : C := .seq (.ops [⟨0, (some 2), none, .mov (.c (.bool false)), []⟩]) (.seq (.seq (.ops [⟨0, (some 5), none, .call (.c (.func (.func 13) #[] #[])) [], []⟩, ⟨1, (some 6), none, .un .not (.t 5), []⟩]) (.ite (.t 6) (.seq (.ops [⟨0, (some 2), none, .mov (.c (.bool false)), []⟩]) .ret) .skip)) (.seq (.seq (.ops [⟨0, (some 7), none, .mov (.t 0), []⟩, ⟨1, (some 8), none, .len (.t 7), []⟩, ⟨2, (some 9), none, .mov (.c (.int .i64 0)), []⟩]) (.block 0 (.loop (.seq (.ops [⟨0, (some 10), none, .bin .lss (.t 9) (.t 8), []⟩]) (.seq (.ite (.t 10) .skip (.exit 0)) (.seq (.block 1 (.seq (.ops [⟨0, (some 11), none, .ixs 5 (.t 7) (.t 9), []⟩, ⟨1, (some 12), none, .ldn 5 (.t 11), []⟩, ⟨2, (some 4), none, .alloc 27 [.int .i64 0, .int .i64 0, .int .i64 0, .slice none 0 0, .slice none 0 0], []⟩, ⟨3, none, none, .stn 5 (.t 4) (.t 12), []⟩]) (.seq (.ops [⟨0, (some 13), none, .ldn 5 (.t 4), []⟩, ⟨1, (some 14), none, .call (.c (.func (.func 14) #[] #[])) [.t 13], []⟩, ⟨2, (some 15), none, .un .not (.t 14), []⟩]) (.ite (.t 15) (.seq (.ops [⟨0, (some 2), none, .mov (.c (.bool false)), []⟩]) .ret) .skip)))) (.ops [⟨0, (some 16), none, .bin .add (.t 9) (.c (.int .i64 1)), []⟩, ⟨1, (some 9), none, .mov (.t 16), []⟩]))))))) (.seq (.ops [⟨0, (some 2), none, .mov (.c (.bool true)), []⟩]) .ret)))
attribute [irreducible] c_culletlaw19_MendColumns
theorem run_culletlaw19_MendColumns {args : List Value} {w : World} {K : Value → World → Prop} (hn : args.length ≤ 17) (h : WP Try.prog c_culletlaw19_MendColumns (endQ [.t 2] K) (initT args) w) : CallV Try.prog 3 args w K :=
  call_of follows Try.func3 (by kernel_rfl) (by kernel_rfl) hn h
end Go.Proofs.Ytbaljbadlfopgaa.Fw
namespace Go.Proofs.Ytbaljbadlfopgaa.Fw
open Go Go.Fw
theorem opm_of {w : World} {vs : List Value} (h : vs.length = 5 ∧ RF 1 (RI .i64) (RF 1 (RI .i64) (RF 1 (RI .i64) (RF 1 (RS Int 8 fun _ n => -9223372036854775808 ≤ n ∧ n ≤ 9223372036854775807) (RF 1 (RS (El 8) 1 fun _ _ => True) RZ)))) w vs) : OpM w vs := by
  obtain ⟨hl, h⟩ := h
  obtain ⟨u0, c0, rfl, y0, h⟩ := RF.split h RI.one
  obtain ⟨u1, c1, rfl, y1, h⟩ := RF.split h RI.one
  obtain ⟨u2, c2, rfl, y2, h⟩ := RF.split h RI.one
  obtain ⟨u3, c3, rfl, y3, h⟩ := RF.split h RS.one
  obtain ⟨u4, c4, rfl, y4, h⟩ := RF.split h RS.one
  obtain rfl : c4 = [] := List.eq_nil_of_length_eq_zero (by simpa using hl)
  obtain ⟨k, e0, -⟩ := y0
  obtain ⟨i, e1, w1⟩ := y1
  obtain ⟨j, e2, w2⟩ := y2
  obtain ⟨d, l, e3, hs, hb, -⟩ := y3
  obtain ⟨d2, l2, e4, hs2, hb2, -⟩ := y4
  simp only [List.cons.injEq, and_true] at e0 e1 e2 e3 e4
  subst e0 e1 e2 e3 e4
  have r1 := wf_i64 w1
  have r2 := wf_i64 w2
  exact ⟨k, i, j, _, _, l, l2, rfl, hs, hs2, by omega, by omega, by omega, by omega⟩
theorem culletlaw19_MendColumns_spec (w : World) (s : Value) (rows : List (List Value)) (h : Slw 5 w s rows) (hb : rows.length ≤ 70368744175616) (hq : ∀ vs ∈ rows, OpM w vs) :
    CallV Try.prog 3 [s] w fun v w' => v = .bool true ∧ RowKit.Below w.heap.size w w' := by
  refine run_culletlaw19_MendColumns (by simp) ?_
  simp only [c_culletlaw19_MendColumns, WS, List.getElem_cons_zero, List.getElem_cons_succ, Option.isNone_some, Option.isNone_none, List.getD_cons_zero, List.getD_cons_succ, I.at, atL, atO, atP, evp, evs, retV, ↓reduceIte, Nat.reduceEqDiff, reduceCtorEq]
  refine X_call0 ((culletlaw19_awake_spec w).mono ?_)
  rintro _ w1 ⟨rfl, hB⟩
  have B := hB
  clear hB
  simp (maxSteps := 1000000) (disch := omega) only [WS, List.getElem_cons_zero, List.getElem_cons_succ, Option.isNone_some, Option.isNone_none, List.getD_cons_zero, List.getD_cons_succ, I.at, atL, atO, atP, evp, evs, retV, ↓reduceIte, Nat.reduceEqDiff, reduceCtorEq, AS, h.Xlen]
  refine loop_of (fun t w' => t 7 = s ∧ t 8 = .int .i64 (rows.length : Int) ∧ RowKit.Below w.heap.size w w' ∧ ∃ n : Nat, t 9 = .int .i64 (n : Int) ∧ n ≤ rows.length) (fun t _ => rows.length - (toI (t 9)).toNat) ⟨by simp only [WS, List.getElem_cons_zero, List.getElem_cons_succ, Option.isNone_some, Option.isNone_none, List.getD_cons_zero, List.getD_cons_succ, I.at, atL, atO, atP, evp, evs, retV, ↓reduceIte, Nat.reduceEqDiff, reduceCtorEq], by simp only [WS, List.getElem_cons_zero, List.getElem_cons_succ, Option.isNone_some, Option.isNone_none, List.getD_cons_zero, List.getD_cons_succ, I.at, atL, atO, atP, evp, evs, retV, ↓reduceIte, Nat.reduceEqDiff, reduceCtorEq], B, 0, by simp only [WS, List.getElem_cons_zero, List.getElem_cons_succ, Option.isNone_some, Option.isNone_none, List.getD_cons_zero, List.getD_cons_succ, I.at, atL, atO, atP, evp, evs, retV, ↓reduceIte, Nat.reduceEqDiff, reduceCtorEq]; rfl, by omega⟩ ?_
  clear B
  rintro t w2 ⟨t7, t8, B, n, t9, hn⟩
  by_cases hlt : n < rows.length
  · have hw := h.up B
    have hop := (hq _ (List.getElem_mem hlt)).up B
    have hl5 := h.ln _ (List.getElem_mem hlt)
    simp (maxSteps := 1000000) (disch := omega) only [WS, List.getElem_cons_zero, List.getElem_cons_succ, Option.isNone_some, Option.isNone_none, List.getD_cons_zero, List.getD_cons_succ, I.at, atL, atO, atP, evp, evs, retV, ↓reduceIte, Nat.reduceEqDiff, reduceCtorEq, AS, t7, t8, t9, hw.Xix hlt, hw.Xldn hlt]
    generalize rows[n] = vs at hop hl5
    obtain ⟨kd, k, n', s1, s2, P, Y, rfl, h1, h2, hP, hY, hk, hn'⟩ := hop
    refine X_alloc fun b w3 hr hb hB => ?_
    simp (maxSteps := 1000000) (disch := omega) only [WS, List.getElem_cons_zero, List.getElem_cons_succ, Option.isNone_some, Option.isNone_none, List.getD_cons_zero, List.getD_cons_succ, I.at, atL, atO, atP, evp, evs, retV, ↓reduceIte, Nat.reduceEqDiff, reduceCtorEq, AS, t7, t8, t9]
    have hsc : ∀ u ∈ [Value.int .i64 kd, .int .i64 k, .int .i64 n', s1, s2], scal u = true := by
      obtain ⟨a, cap, rfl, -⟩ := h1.sh
      obtain ⟨a2, cap2, rfl, -⟩ := h2.sh
      intro u hu
      simp only [List.mem_cons, List.not_mem_nil, or_false] at hu
      rcases hu with rfl | rfl | rfl | rfl | rfl <;> rfl
    refine Row.Xstn hr hl5 hsc (by simp) fun w4 hr hg => ?_
    have B := (B.trans (hB.mono B.size)).grown hg (Nat.le_trans B.size hB.size) fun c hc => by cases hc; exact Nat.le_trans B.size hb
    have h1 : Sl w4 s1 P := (h1.up hB).grown hg (by
      by_cases hl0 : P = []
      · exact Or.inr hl0
      · obtain ⟨c, hc, hclt⟩ := h1.blk_lt hl0
        left
        rw [hc]
        intro e
        cases e
        omega)
    have h2 : Sl w4 s2 Y := (h2.up hB).grown hg (by
      by_cases hl0 : Y = []
      · exact Or.inr hl0
      · obtain ⟨c, hc, hclt⟩ := h2.blk_lt hl0
        left
        rw [hc]
        intro e
        cases e
        omega)
    clear hg hB hb
    simp (maxSteps := 1000000) (disch := omega) only [WS, List.getElem_cons_zero, List.getElem_cons_succ, Option.isNone_some, Option.isNone_none, List.getD_cons_zero, List.getD_cons_succ, I.at, atL, atO, atP, evp, evs, retV, ↓reduceIte, Nat.reduceEqDiff, reduceCtorEq, AS, t7, t8, t9, hr.Xldn (n := 5) rfl]
    refine X_call0 ((culletlaw19_plays_spec w4 kd k n' s1 s2 P Y h1 h2 hP (by omega) hk hn').mono ?_)
    rintro _ w5 ⟨rfl, hB⟩
    have B := B.trans (hB.mono B.size)
    clear hB
    simp (maxSteps := 1000000) (disch := omega) only [WS, List.getElem_cons_zero, List.getElem_cons_succ, Option.isNone_some, Option.isNone_none, List.getD_cons_zero, List.getD_cons_succ, I.at, atL, atO, atP, evp, evs, retV, ↓reduceIte, Nat.reduceEqDiff, reduceCtorEq, AS, t7, t8, t9]
    exact ⟨⟨B, n + 1, rfl, by omega⟩, by omega⟩
  · obtain rfl : n = rows.length := by omega
    simp (maxSteps := 1000000) (disch := omega) only [WS, List.getElem_cons_zero, List.getElem_cons_succ, Option.isNone_some, Option.isNone_none, List.getD_cons_zero, List.getD_cons_succ, I.at, atL, atO, atP, evp, evs, retV, ↓reduceIte, Nat.reduceEqDiff, reduceCtorEq, AS, t7, t8, t9]
    exact B
end Go.Proofs.Ytbaljbadlfopgaa.Fw
