import Derived.Test.YtpmfeaajpjjfiaaProg
import Derived.Test.YtpmfeaajpjjfiaaFwTA
import Derived.Test.YtpmfeaajpjjfiaaSS14bkA
import Derived.Test.YtpmfeaajpjjfiaaFwWA
import Derived.Test.YtpmfeaajpjjfiaaFwOA
set_option linter.all false
set_option linter.unusedVariables false
set_option linter.unusedSimpArgs false
set_option maxRecDepth 100000
set_option maxHeartbeats 1000000
namespace Go.Proofs.Ytpmfeaajpjjfiaa.Fw
open Go Go.Fw Go.Proofs
attribute [local irreducible] stepI
def c_culletlaw14_one : C := .seq (.ops [⟨0, (some 1), none, .box 60 (.t 0), []⟩, ⟨1, (some 2), none, .mov (.c (.bool false)), []⟩]) (.seq (.ops [⟨0, (some 8), none, .bsl 31 0 [.int .u16 0] [], []⟩, ⟨1, (some 9), none, .fad 1 (.t 1), []⟩, ⟨2, (some 10), none, .ld (.t 9), []⟩, ⟨3, (some 11), none, .app 31 2 [.int .u16 0] (.t 8) (.t 10), []⟩, ⟨4, (some 3), none, .mov (.t 11), []⟩]) (.seq (.ops [⟨0, (some 4), none, .mov (.c (.slice none 0 0)), []⟩, ⟨1, (some 5), none, .mov (.c (.slice none 0 0)), []⟩]) (.seq (.ops [⟨0, (some 6), none, .mov (.c (.int .i64 0)), []⟩]) (.seq (.ops [⟨0, (some 7), none, .mov (.c (.int .i64 0)), []⟩]) (.seq (.seq (.ops [⟨0, (some 12), none, .fad 0 (.t 1), []⟩, ⟨1, (some 13), none, .ld (.t 12), []⟩]) (.block 0 (.seq (.ops [⟨0, (some 15), none, .bin .eql (.t 13) (.c (.int .i64 1)), []⟩, ⟨1, (some 14), none, .mov (.t 15), []⟩]) (.ite (.t 14) (.seq (.ops [⟨0, (some 17), none, .mov (.t 3), []⟩, ⟨1, (some 18), none, .fad 3 (.t 1), []⟩, ⟨2, (some 19), none, .ld (.t 18), []⟩, ⟨3, (some 20), none, .call (.c (.func (.func 18) #[] #[])) [.t 17, .t 19], []⟩, ⟨4, (some 16), none, .mov (.t 20), []⟩, ⟨5, (some 21), none, .ext (.t 16) 0, []⟩, ⟨6, (some 22), none, .ext (.t 16) 1, []⟩, ⟨7, (some 4), none, .mov (.t 21), []⟩, ⟨8, (some 6), none, .mov (.t 22), []⟩]) (.ops [⟨0, (some 24), none, .fad 1 (.t 1), []⟩, ⟨1, (some 25), none, .ld (.t 24), []⟩, ⟨2, (some 26), none, .fad 3 (.t 1), []⟩, ⟨3, (some 27), none, .ld (.t 26), []⟩, ⟨4, (some 28), none, .call (.c (.func (.func 55) #[] #[])) [.t 25, .t 27], []⟩, ⟨5, (some 23), none, .mov (.t 28), []⟩, ⟨6, (some 29), none, .ext (.t 23) 0, []⟩, ⟨7, (some 30), none, .ext (.t 23) 1, []⟩, ⟨8, (some 5), none, .mov (.t 29), []⟩, ⟨9, (some 7), none, .mov (.t 30), []⟩])) (.seq (.ops [⟨0, (some 32), none, .bin .eql (.t 13) (.c (.int .i64 2)), []⟩, ⟨1, (some 31), none, .mov (.t 32), []⟩]) (.ite (.t 31) (.seq (.ops [⟨0, (some 34), none, .mov (.t 3), []⟩, ⟨1, (some 35), none, .fad 3 (.t 1), []⟩, ⟨2, (some 36), none, .ld (.t 35), []⟩, ⟨3, (some 37), none, .call (.c (.func (.func 17) #[] #[])) [.t 34, .t 36], []⟩, ⟨4, (some 33), none, .mov (.t 37), []⟩, ⟨5, (some 38), none, .ext (.t 33) 0, []⟩, ⟨6, (some 39), none, .ext (.t 33) 1, []⟩, ⟨7, (some 4), none, .mov (.t 38), []⟩, ⟨8, (some 6), none, .mov (.t 39), []⟩]) (.ops [⟨0, (some 41), none, .fad 1 (.t 1), []⟩, ⟨1, (some 42), none, .ld (.t 41), []⟩, ⟨2, (some 43), none, .fad 3 (.t 1), []⟩, ⟨3, (some 44), none, .ld (.t 43), []⟩, ⟨4, (some 45), none, .call (.c (.func (.func 56) #[] #[])) [.t 42, .t 44], []⟩, ⟨5, (some 40), none, .mov (.t 45), []⟩, ⟨6, (some 46), none, .ext (.t 40) 0, []⟩, ⟨7, (some 47), none, .ext (.t 40) 1, []⟩, ⟨8, (some 5), none, .mov (.t 46), []⟩, ⟨9, (some 7), none, .mov (.t 47), []⟩])) (.seq (.seq (.ops [⟨0, (some 49), none, .bin .eql (.t 13) (.c (.int .i64 3)), []⟩, ⟨1, (some 48), none, .mov (.t 49), []⟩]) (.ite (.t 48) .skip (.ops [⟨0, (some 50), none, .bin .eql (.t 13) (.c (.int .i64 4)), []⟩, ⟨1, (some 48), none, .mov (.t 50), []⟩]))) (.ite (.t 48) (.seq (.ops [⟨0, (some 51), none, .ldn 5 (.t 1), []⟩, ⟨1, (some 52), none, .call (.c (.func (.func 57) #[] #[])) [.t 51], []⟩, ⟨2, (some 2), none, .mov (.t 52), []⟩]) .ret) (.seq (.ops [⟨0, (some 54), none, .bin .eql (.t 13) (.c (.int .i64 5)), []⟩, ⟨1, (some 53), none, .mov (.t 54), []⟩]) (.ite (.t 53) (.seq (.ops [⟨0, (some 56), none, .mov (.t 3), []⟩, ⟨1, (some 57), none, .fad 3 (.t 1), []⟩, ⟨2, (some 58), none, .ld (.t 57), []⟩, ⟨3, (some 59), none, .fad 4 (.t 1), []⟩, ⟨4, (some 60), none, .ld (.t 59), []⟩, ⟨5, (some 61), none, .call (.c (.func (.func 21) #[] #[])) [.t 56, .t 58, .t 60], []⟩, ⟨6, (some 55), none, .mov (.t 61), []⟩, ⟨7, (some 62), none, .ext (.t 55) 0, []⟩, ⟨8, (some 63), none, .ext (.t 55) 1, []⟩, ⟨9, (some 4), none, .mov (.t 62), []⟩, ⟨10, (some 6), none, .mov (.t 63), []⟩]) (.ops [⟨0, (some 65), none, .fad 1 (.t 1), []⟩, ⟨1, (some 66), none, .ld (.t 65), []⟩, ⟨2, (some 67), none, .fad 3 (.t 1), []⟩, ⟨3, (some 68), none, .ld (.t 67), []⟩, ⟨4, (some 69), none, .fad 4 (.t 1), []⟩, ⟨5, (some 70), none, .ld (.t 69), []⟩, ⟨6, (some 71), none, .call (.c (.func (.func 58) #[] #[])) [.t 66, .t 68, .t 70], []⟩, ⟨7, (some 64), none, .mov (.t 71), []⟩, ⟨8, (some 72), none, .ext (.t 64) 0, []⟩, ⟨9, (some 73), none, .ext (.t 64) 1, []⟩, ⟨10, (some 5), none, .mov (.t 72), []⟩, ⟨11, (some 7), none, .mov (.t 73), []⟩])) (.seq (.ops [⟨0, (some 75), none, .bin .eql (.t 13) (.c (.int .i64 6)), []⟩, ⟨1, (some 74), none, .mov (.t 75), []⟩]) (.ite (.t 74) (.seq (.ops [⟨0, (some 77), none, .mov (.t 3), []⟩, ⟨1, (some 78), none, .fad 4 (.t 1), []⟩, ⟨2, (some 79), none, .ld (.t 78), []⟩, ⟨3, (some 80), none, .fad 3 (.t 1), []⟩, ⟨4, (some 81), none, .ld (.t 80), []⟩, ⟨5, (some 82), none, .call (.c (.func (.func 22) #[] #[])) [.t 77, .t 79, .t 81], []⟩, ⟨6, (some 76), none, .mov (.t 82), []⟩, ⟨7, (some 83), none, .ext (.t 76) 0, []⟩, ⟨8, (some 84), none, .ext (.t 76) 1, []⟩, ⟨9, (some 4), none, .mov (.t 83), []⟩, ⟨10, (some 6), none, .mov (.t 84), []⟩]) (.ops [⟨0, (some 86), none, .fad 1 (.t 1), []⟩, ⟨1, (some 87), none, .ld (.t 86), []⟩, ⟨2, (some 88), none, .fad 4 (.t 1), []⟩, ⟨3, (some 89), none, .ld (.t 88), []⟩, ⟨4, (some 90), none, .fad 3 (.t 1), []⟩, ⟨5, (some 91), none, .ld (.t 90), []⟩, ⟨6, (some 92), none, .call (.c (.func (.func 59) #[] #[])) [.t 87, .t 89, .t 91], []⟩, ⟨7, (some 85), none, .mov (.t 92), []⟩, ⟨8, (some 93), none, .ext (.t 85) 0, []⟩, ⟨9, (some 94), none, .ext (.t 85) 1, []⟩, ⟨10, (some 5), none, .mov (.t 93), []⟩, ⟨11, (some 7), none, .mov (.t 94), []⟩])) .skip)))))))))))) (.seq (.ops [⟨0, (some 95), none, .mov (.t 6), []⟩, ⟨1, (some 96), none, .mov (.t 7), []⟩, ⟨2, (some 97), none, .bin .eql (.t 95) (.t 96), []⟩, ⟨3, (some 98), none, .mov (.t 97), []⟩, ⟨4, (some 99), (some (98, true)), .mov (.t 4), []⟩, ⟨5, (some 100), (some (98, true)), .mov (.t 5), []⟩, ⟨6, (some 101), (some (98, true)), .call (.c (.func (.func 19) #[] #[])) [.t 99, .t 100], []⟩, ⟨7, (some 102), none, .pick (.t 98) (.t 101) (.c (.bool false)), []⟩, ⟨8, (some 103), none, .mov (.t 102), []⟩, ⟨9, (some 104), (some (103, true)), .mov (.t 3), []⟩, ⟨10, (some 105), (some (103, true)), .fad 1 (.t 1), []⟩, ⟨11, (some 106), (some (103, true)), .ld (.t 105), []⟩, ⟨12, (some 107), (some (103, true)), .call (.c (.func (.func 19) #[] #[])) [.t 104, .t 106], []⟩, ⟨13, (some 108), none, .pick (.t 103) (.t 107) (.c (.bool false)), []⟩, ⟨14, (some 2), none, .mov (.t 108), []⟩]) .ret))))))
attribute [irreducible] c_culletlaw14_one
theorem run_culletlaw14_one {args : List Value} {w : World} {K : Value → World → Prop} (hn : args.length ≤ 109) (h : WP Try.prog c_culletlaw14_one (endQ [.t 2] K) (initT args) w) : CallV Try.prog 42 args w K :=
  call_of follows Try.func42 (by kernel_rfl) (by kernel_rfl) hn h
end Go.Proofs.Ytpmfeaajpjjfiaa.Fw
namespace Go.Proofs.Ytpmfeaajpjjfiaa.Fw
open Go Go.Fw
theorem list_eq_co {m m' : List (El 16)} {n : Nat} {f : Nat → El 16} (hl : m.length = n) (hl' : m'.length = n) (h : ∀ i, i < n → (co m).c i = f i) (h' : ∀ i, i < n → (co m').c i = f i) : m = m' :=
  co_ext (hl.trans hl'.symm) (Ps.ext fun i => by
    by_cases hi : i < n
    · rw [h i hi, h' i hi]
    · rw [co_dg m i (by omega), co_dg m' i (by omega)])
theorem PF.uniq {w w' u u' : World} {l : List (El 16)} {a : Int} {v v' : Value} (h : PF w l a v w') (h' : PF u l a v' u') :
    ∃ sv sv' m e, v = .tuple #[sv, .int .i64 e] ∧ v' = .tuple #[sv', .int .i64 e] ∧ Ow w.heap.size w' sv m ∧ Ow u.heap.size u' sv' m ∧ (m : List (El 16)).length ≤ 65536 := by
  obtain ⟨-, ⟨k, hk, hl, hc, sv, m, rfl, om, lm, cm⟩ | ⟨b1, rfl⟩ | ⟨b1, b2, rfl⟩⟩ := h <;> obtain ⟨-, ⟨k', hk', hl', hc', sv', m', rfl, om', lm', cm'⟩ | ⟨c1, rfl⟩ | ⟨c1, c2, rfl⟩⟩ := h'
  · obtain rfl : k' = k := pow2_inj (hl'.symm.trans hl)
    obtain rfl : m = m' := list_eq_co (lm.trans hl) (lm'.trans hl) cm cm'
    exact ⟨sv, sv', m, 0, rfl, rfl, om, om', by rw [lm, hl]; exact pow_le16 hk⟩
  · rw [hl, (isP_iff _).2 ⟨k, hk, rfl⟩] at c1; exact Bool.noConfusion c1
  · rw [hl, hc] at c2; exact Bool.noConfusion c2
  · rw [hl', (isP_iff _).2 ⟨k', hk', rfl⟩] at b1; exact Bool.noConfusion b1
  · exact ⟨_, _, [], 130, rfl, rfl, Ow.nil _ _, Ow.nil _ _, by simp⟩
  · rw [b1] at c1; exact Bool.noConfusion c1
  · rw [hl', hc'] at b2; exact Bool.noConfusion b2
  · rw [b1] at c1; exact Bool.noConfusion c1
  · exact ⟨_, _, [], 140, rfl, rfl, Ow.nil _ _, Ow.nil _ _, by simp⟩
theorem PI.uniq {w w' u u' : World} {l : List (El 16)} {a : Int} {v v' : Value} (h : PI w l a v w') (h' : PI u l a v' u') :
    ∃ sv sv' m e, v = .tuple #[sv, .int .i64 e] ∧ v' = .tuple #[sv', .int .i64 e] ∧ Ow w.heap.size w' sv m ∧ Ow u.heap.size u' sv' m ∧ (m : List (El 16)).length ≤ 65536 := by
  obtain ⟨-, ⟨k, hk, hl, hc, sv, m, rfl, om, lm, cm⟩ | ⟨b1, rfl⟩ | ⟨b1, b2, rfl⟩⟩ := h <;> obtain ⟨-, ⟨k', hk', hl', hc', sv', m', rfl, om', lm', cm'⟩ | ⟨c1, rfl⟩ | ⟨c1, c2, rfl⟩⟩ := h'
  · obtain rfl : k' = k := pow2_inj (hl'.symm.trans hl)
    obtain rfl : m = m' := list_eq_co (lm.trans hl) (lm'.trans hl) cm cm'
    exact ⟨sv, sv', m, 0, rfl, rfl, om, om', by rw [lm, hl]; exact pow_le16 hk⟩
  · rw [hl, (isP_iff _).2 ⟨k, hk, rfl⟩] at c1; exact Bool.noConfusion c1
  · rw [hl, hc] at c2; exact Bool.noConfusion c2
  · rw [hl', (isP_iff _).2 ⟨k', hk', rfl⟩] at b1; exact Bool.noConfusion b1
  · exact ⟨_, _, [], 130, rfl, rfl, Ow.nil _ _, Ow.nil _ _, by simp⟩
  · rw [b1] at c1; exact Bool.noConfusion c1
  · rw [hl', hc'] at b2; exact Bool.noConfusion b2
  · rw [b1] at c1; exact Bool.noConfusion c1
  · exact ⟨_, _, [], 140, rfl, rfl, Ow.nil _ _, Ow.nil _ _, by simp⟩
theorem PE.uniq {w w' u u' : World} {l : List (El 16)} {a b : Int} {v v' : Value} (h : PE w l a b v w') (h' : PE u l a b v' u') :
    ∃ sv sv' m e, v = .tuple #[sv, .int .i64 e] ∧ v' = .tuple #[sv', .int .i64 e] ∧ Ow w.heap.size w' sv m ∧ Ow u.heap.size u' sv' m ∧ (m : List (El 16)).length ≤ 65536 := by
  obtain ⟨-, ⟨k, hk, hl, hc, hd, sv, m, rfl, om, lm, cm⟩ | ⟨b1, rfl⟩ | ⟨b1, b2, rfl⟩⟩ := h <;> obtain ⟨-, ⟨k', hk', hl', hc', hd', sv', m', rfl, om', lm', cm'⟩ | ⟨c1, rfl⟩ | ⟨c1, c2, rfl⟩⟩ := h'
  · obtain rfl : k' = k := pow2_inj (hl'.symm.trans hl)
    obtain rfl : m = m' := list_eq_co (lm.trans hl) (lm'.trans hl) cm cm'
    exact ⟨sv, sv', m, 0, rfl, rfl, om, om', by rw [lm, hl]; exact pow_le16 hk⟩
  · rw [hl, (isP_iff _).2 ⟨k, hk, rfl⟩] at c1; exact Bool.noConfusion c1
  · rw [hl, hc, hd] at c2; rcases c2 with c2 | c2 <;> exact Bool.noConfusion c2
  · rw [hl', (isP_iff _).2 ⟨k', hk', rfl⟩] at b1; exact Bool.noConfusion b1
  · exact ⟨_, _, [], 130, rfl, rfl, Ow.nil _ _, Ow.nil _ _, by simp⟩
  · rw [b1] at c1; exact Bool.noConfusion c1
  · rw [hl', hc', hd'] at b2; rcases b2 with b2 | b2 <;> exact Bool.noConfusion b2
  · rw [b1] at c1; exact Bool.noConfusion c1
  · exact ⟨_, _, [], 140, rfl, rfl, Ow.nil _ _, Ow.nil _ _, by simp⟩
theorem PO.uniq {w w' u u' : World} {l : List (El 16)} {n a : Int} {v v' : Value} (h : PO w l n a v w') (h' : PO u l n a v' u') :
    ∃ sv sv' m e, v = .tuple #[sv, .int .i64 e] ∧ v' = .tuple #[sv', .int .i64 e] ∧ Ow w.heap.size w' sv m ∧ Ow u.heap.size u' sv' m ∧ (m : List (El 16)).length ≤ 65536 := by
  have key : ∀ k q : Nat, n = ((2 ^ k : Nat) : Int) → l.length = q * 2 ^ k → q ≠ 0 → ¬ (l.length = 0 ∨ l.length % n.toNat ≠ 0) := fun k q e hl hq hh => by
    have h0 := Nat.two_pow_pos k
    rcases hh with hh | hh
    · rw [hl] at hh
      rcases Nat.mul_eq_zero.1 hh with h1 | h1
      · exact hq h1
      · omega
    · rw [e, Int.toNat_natCast, hl, Nat.mul_mod_left] at hh; exact hh rfl
  obtain ⟨-, ⟨k, q, hk, hn, hl, hq, hc, sv, m, rfl, om, lm, cm⟩ | ⟨b1, rfl⟩ | ⟨b1, b2, rfl⟩ | ⟨b1, b2, b3, rfl⟩⟩ := h <;> obtain ⟨-, ⟨k', q', hk', hn', hl', hq', hc', sv', m', rfl, om', lm', cm'⟩ | ⟨c1, rfl⟩ | ⟨c1, c2, rfl⟩ | ⟨c1, c2, c3, rfl⟩⟩ := h'
  · obtain rfl : k' = k := pow2_inj (by omega)
    have h0 := Nat.two_pow_pos k'
    obtain rfl : q' = q := Nat.eq_of_mul_eq_mul_right h0 (hl'.symm.trans hl)
    obtain rfl : m = m' := list_eq_co lm lm' cm cm'
    exact ⟨sv, sv', m, 0, rfl, rfl, om, om', by rw [lm]; exact pow_le16 hk⟩
  · rw [hn, (isP_iff _).2 ⟨k, hk, rfl⟩] at c1; exact Bool.noConfusion c1
  · exact absurd c2 (key k q hn hl hq)
  · rw [hn, Int.toNat_natCast, hc] at c3; exact Bool.noConfusion c3
  · rw [hn', (isP_iff _).2 ⟨k', hk', rfl⟩] at b1; exact Bool.noConfusion b1
  · exact ⟨_, _, [], 130, rfl, rfl, Ow.nil _ _, Ow.nil _ _, by simp⟩
  · rw [b1] at c1; exact Bool.noConfusion c1
  · rw [b1] at c1; exact Bool.noConfusion c1
  · exact absurd b2 (key k' q' hn' hl' hq')
  · rw [b1] at c1; exact Bool.noConfusion c1
  · exact ⟨_, _, [], 6, rfl, rfl, Ow.nil _ _, Ow.nil _ _, by simp⟩
  · exact absurd b2 c2
  · rw [hn', Int.toNat_natCast, hc'] at b3; exact Bool.noConfusion b3
  · rw [b1] at c1; exact Bool.noConfusion c1
  · exact absurd c2 b2
  · exact ⟨_, _, [], 140, rfl, rfl, Ow.nil _ _, Ow.nil _ _, by simp⟩
/-- A step as it is handed in. -/
structure Op5 (w : World) (vs : List Value) (k : Int) : Prop where
  ex : ∃ (V Rs : Value) (LV : List (El 16)) (hin : List Hd) (R : Nat → List (El 16)) (a n : Int), vs = [.int .i64 k, V, Rs, .int .i64 a, .int .i64 n] ∧ Sl w V LV ∧ LV.length ≤ 70368744175616 ∧ Rin w Rs hin R ∧ scal V = true ∧ scal Rs = true
theorem Op5.up {w w' : World} {vs : List Value} {k : Int} (h : Op5 w vs k) (hB : RowKit.Below w.heap.size w w') : Op5 w' vs k := by
  obtain ⟨V, Rs, LV, hin, R, a, n, e, hV, hl, hR, s1, s2⟩ := h.ex
  exact ⟨V, Rs, LV, hin, R, a, n, e, hV.up hB, hl, hR.up hB, s1, s2⟩
theorem scal_sl {α : Type} [Cell α] {w : World} {s : Value} {l : List α} (h : Sl w s l) : scal s = true := by obtain ⟨a, cap, rfl, -⟩ := h.sh; rfl
theorem op5_of {w : World} {vs : List Value} (h : vs.length = 5 ∧ RF 1 (RI .i64) (RF 1 (RS (El 16) 2 fun _ _ => True) (RF 1 (RS Hd 24 fun w h => ∃ l : List (El 16), Sl w (Cell.v h) l ∧ l.length * 2 ≤ 140737488351232 ∧ ∀ x ∈ l, True) (RF 1 (RI .i64) (RF 1 (RI .i64) RZ)))) w vs) : ∃ k, Op5 w vs k := by
  obtain ⟨hl, h⟩ := h
  obtain ⟨u0, c0, rfl, y0, h⟩ := RF.split h RI.one
  obtain ⟨u1, c1, rfl, y1, h⟩ := RF.split h RS.one
  obtain ⟨u2, c2, rfl, y2, h⟩ := RF.split h RS.one
  obtain ⟨u3, c3, rfl, y3, h⟩ := RF.split h RI.one
  obtain ⟨u4, c4, rfl, y4, h⟩ := RF.split h RI.one
  obtain rfl : c4 = [] := List.eq_nil_of_length_eq_zero (by simpa using hl)
  obtain ⟨k, e0, -⟩ := y0
  obtain ⟨V, LV, e1, hV, bV, -⟩ := y1
  obtain ⟨Rs, hin, e2, hR, bR, hq⟩ := y2
  obtain ⟨a, e3, -⟩ := y3
  obtain ⟨n, e4, -⟩ := y4
  simp only [List.cons.injEq, and_true] at e0 e1 e2 e3 e4
  subst e0 e1 e2 e3 e4
  refine ⟨k, u1, u2, LV, hin, fun i => if h : i < hin.length then Classical.choose (hq hin[i] (List.getElem_mem h)) else [], a, n, rfl, hV, by omega, ⟨hR, fun i hi => ?_, fun i hi => ?_, by omega⟩, scal_sl hV, scal_sl hR⟩
  · simp only [hi, dif_pos]
    exact (Classical.choose_spec (hq hin[i] (List.getElem_mem hi))).1
  · simp only [hi, dif_pos]
    have := (Classical.choose_spec (hq hin[i] (List.getElem_mem hi))).2.1
    omega
set_option maxHeartbeats 4000000 in
theorem culletlaw14_one1_spec (w : World) (V Rs : Value) (LV : List (El 16)) (hin : List Hd) (R : Nat → List (El 16)) (a n : Int) (hV : Sl w V LV) (hl : LV.length ≤ 70368744175616) (hR : Rin w Rs hin R) (s1 : scal V = true) (s2 : scal Rs = true) :
    CallV Try.prog 42 [.agg #[.int .i64 1, V, Rs, .int .i64 a, .int .i64 n]] w fun v w' => v = .bool true ∧ RowKit.Below w.heap.size w w' := by
  refine run_culletlaw14_one (by simp) ?_
  simp only [c_culletlaw14_one, WS, List.getElem_cons_zero, List.getElem_cons_succ, Option.isNone_some, Option.isNone_none, List.getD_cons_zero, List.getD_cons_succ, I.at, atL, atO, atP, evp, evs, retV, ↓reduceIte, Nat.reduceEqDiff, reduceCtorEq]
  refine X_box fun bo w1 hro hbo hB => ?_
  have hro : Row w1 bo [.int .i64 1, V, Rs, .int .i64 a, .int .i64 n] := hro
  have B := hB
  have hV := hV.up hB
  have hR := hR.up hB
  clear hB
  simp (maxSteps := 1000000) (disch := omega) only [WS, List.getElem_cons_zero, List.getElem_cons_succ, Option.isNone_some, Option.isNone_none, List.getD_cons_zero, List.getD_cons_succ, I.at, atL, atO, atP, evp, evs, retV, ↓reduceIte, Nat.reduceEqDiff, reduceCtorEq, AS]
  refine X_bsl (zs := ([] : List (El 16))) (by rfl) (by rfl) fun p w2 op hB => ?_
  have hV2 := hV.up hB
  have hro2 := hro.up hB
  simp (maxSteps := 1000000) (disch := omega) only [WS, List.getElem_cons_zero, List.getElem_cons_succ, Option.isNone_some, Option.isNone_none, List.getD_cons_zero, List.getD_cons_succ, I.at, atL, atO, atP, evp, evs, retV, ↓reduceIte, Nat.reduceEqDiff, reduceCtorEq, AS, hro2.Xld (show 1 < _ by simp)]
  refine op.Xapp2 hV2 hB.size (by simp only [List.length_nil, maxBytes]; omega) (by simp only [List.length_nil]; omega) fun q w3 oq hg => ?_
  rw [List.nil_append] at oq
  have hB := hg.below hB hB.size fun b hb => (op.blk b hb).1
  clear hg op hV2 hro2
  have oq := oq.sl
  have hV := hV.up hB
  have hR := hR.up hB
  have hro := hro.up hB
  have B := B.trans (hB.mono B.size)
  clear hB
  simp (maxSteps := 1000000) (disch := omega) only [WS, List.getElem_cons_zero, List.getElem_cons_succ, Option.isNone_some, Option.isNone_none, List.getD_cons_zero, List.getD_cons_succ, I.at, atL, atO, atP, evp, evs, retV, ↓reduceIte, Nat.reduceEqDiff, reduceCtorEq, AS, hro.Xld (show 0 < _ by simp), show decide ((1 : Int) = 1) = true from rfl, show decide ((1 : Int) = 2) = false from rfl, show decide ((1 : Int) = 3) = false from rfl, show decide ((1 : Int) = 4) = false from rfl, show decide ((1 : Int) = 5) = false from rfl, show decide ((1 : Int) = 6) = false from rfl, hro.Xld (show 3 < _ by simp)]
  refine X_call0 ((afft_Forward_spec w3 q LV a oq hl).mono ?_)
  intro v5 w5 h5
  have h5 : PF w3 LV a v5 w5 := h5
  have hB := h5.1
  obtain ⟨sv, _, _, e, rfl, -, -, -, -⟩ := h5.uniq h5
  have hV := hV.up hB
  have hR := hR.up hB
  have hro := hro.up hB
  have oq := oq.up hB
  have B := B.trans (hB.mono B.size)
  clear hB
  simp (maxSteps := 1000000) (disch := omega) only [WS, List.getElem_cons_zero, List.getElem_cons_succ, Option.isNone_some, Option.isNone_none, List.getD_cons_zero, List.getD_cons_succ, I.at, atL, atO, atP, evp, evs, retV, ↓reduceIte, Nat.reduceEqDiff, reduceCtorEq, AS, hro.Xld (show 1 < _ by simp), hro.Xld (show 3 < _ by simp)]
  refine X_call0 ((culletref14_Forward_spec w5 V LV a hV hl).mono ?_)
  intro v6 w6 h6
  have hB := h6.1
  obtain ⟨s1, s2, m, e2, e3, rfl, o1, o2, lm⟩ := h5.uniq h6
  cases e3
  have o1 := o1.sl
  have o2 := o2.sl
  have hV := hV.up hB
  have hR := hR.up hB
  have hro := hro.up hB
  have oq := oq.up hB
  have o1 := o1.up hB
  have B := B.trans (hB.mono B.size)
  clear hB
  clear h5 h6
  simp (maxSteps := 1000000) (disch := omega) only [WS, List.getElem_cons_zero, List.getElem_cons_succ, Option.isNone_some, Option.isNone_none, List.getD_cons_zero, List.getD_cons_succ, I.at, atL, atO, atP, evp, evs, retV, ↓reduceIte, Nat.reduceEqDiff, reduceCtorEq, AS, show ∀ e : Int, decide (e = e) = true from fun e => decide_eq_true rfl]
  refine X_call0 ((culletlaw14_alike_spec w6 _ _ m m o1 o2 (by omega) (by omega)).mono ?_)
  rintro _ w7 ⟨rfl, hL⟩
  rw [decide_eq_true rfl]
  have hB := hL.1
  have hV := hV.up hB
  have hR := hR.up hB
  have hro := hro.up hB
  have oq := oq.up hB
  have B := B.trans (hB.mono B.size)
  clear hB
  simp (maxSteps := 1000000) (disch := omega) only [WS, List.getElem_cons_zero, List.getElem_cons_succ, Option.isNone_some, Option.isNone_none, List.getD_cons_zero, List.getD_cons_succ, I.at, atL, atO, atP, evp, evs, retV, ↓reduceIte, Nat.reduceEqDiff, reduceCtorEq, AS, hro.Xld (show 1 < _ by simp)]
  refine X_call0 ((culletlaw14_alike_spec w7 q V LV LV oq hV (by omega) (by omega)).mono ?_)
  rintro _ w8 ⟨rfl, hL2⟩
  rw [decide_eq_true rfl]
  have hB := hL2.1
  have B := B.trans (hB.mono B.size)
  clear hB
  simp (maxSteps := 1000000) (disch := omega) only [WS, List.getElem_cons_zero, List.getElem_cons_succ, Option.isNone_some, Option.isNone_none, List.getD_cons_zero, List.getD_cons_succ, I.at, atL, atO, atP, evp, evs, retV, ↓reduceIte, Nat.reduceEqDiff, reduceCtorEq, AS]
  exact B
set_option maxHeartbeats 4000000 in
theorem culletlaw14_one2_spec (w : World) (V Rs : Value) (LV : List (El 16)) (hin : List Hd) (R : Nat → List (El 16)) (a n : Int) (hV : Sl w V LV) (hl : LV.length ≤ 70368744175616) (hR : Rin w Rs hin R) (s1 : scal V = true) (s2 : scal Rs = true) :
    CallV Try.prog 42 [.agg #[.int .i64 2, V, Rs, .int .i64 a, .int .i64 n]] w fun v w' => v = .bool true ∧ RowKit.Below w.heap.size w w' := by
  refine run_culletlaw14_one (by simp) ?_
  simp only [c_culletlaw14_one, WS, List.getElem_cons_zero, List.getElem_cons_succ, Option.isNone_some, Option.isNone_none, List.getD_cons_zero, List.getD_cons_succ, I.at, atL, atO, atP, evp, evs, retV, ↓reduceIte, Nat.reduceEqDiff, reduceCtorEq]
  refine X_box fun bo w1 hro hbo hB => ?_
  have hro : Row w1 bo [.int .i64 2, V, Rs, .int .i64 a, .int .i64 n] := hro
  have B := hB
  have hV := hV.up hB
  have hR := hR.up hB
  clear hB
  simp (maxSteps := 1000000) (disch := omega) only [WS, List.getElem_cons_zero, List.getElem_cons_succ, Option.isNone_some, Option.isNone_none, List.getD_cons_zero, List.getD_cons_succ, I.at, atL, atO, atP, evp, evs, retV, ↓reduceIte, Nat.reduceEqDiff, reduceCtorEq, AS]
  refine X_bsl (zs := ([] : List (El 16))) (by rfl) (by rfl) fun p w2 op hB => ?_
  have hV2 := hV.up hB
  have hro2 := hro.up hB
  simp (maxSteps := 1000000) (disch := omega) only [WS, List.getElem_cons_zero, List.getElem_cons_succ, Option.isNone_some, Option.isNone_none, List.getD_cons_zero, List.getD_cons_succ, I.at, atL, atO, atP, evp, evs, retV, ↓reduceIte, Nat.reduceEqDiff, reduceCtorEq, AS, hro2.Xld (show 1 < _ by simp)]
  refine op.Xapp2 hV2 hB.size (by simp only [List.length_nil, maxBytes]; omega) (by simp only [List.length_nil]; omega) fun q w3 oq hg => ?_
  rw [List.nil_append] at oq
  have hB := hg.below hB hB.size fun b hb => (op.blk b hb).1
  clear hg op hV2 hro2
  have oq := oq.sl
  have hV := hV.up hB
  have hR := hR.up hB
  have hro := hro.up hB
  have B := B.trans (hB.mono B.size)
  clear hB
  simp (maxSteps := 1000000) (disch := omega) only [WS, List.getElem_cons_zero, List.getElem_cons_succ, Option.isNone_some, Option.isNone_none, List.getD_cons_zero, List.getD_cons_succ, I.at, atL, atO, atP, evp, evs, retV, ↓reduceIte, Nat.reduceEqDiff, reduceCtorEq, AS, hro.Xld (show 0 < _ by simp), show decide ((2 : Int) = 1) = false from rfl, show decide ((2 : Int) = 2) = true from rfl, show decide ((2 : Int) = 3) = false from rfl, show decide ((2 : Int) = 4) = false from rfl, show decide ((2 : Int) = 5) = false from rfl, show decide ((2 : Int) = 6) = false from rfl, hro.Xld (show 3 < _ by simp)]
  refine X_call0 ((afft_Inverse_spec w3 q LV a oq hl).mono ?_)
  intro v5 w5 h5
  have h5 : PI w3 LV a v5 w5 := h5
  have hB := h5.1
  obtain ⟨sv, _, _, e, rfl, -, -, -, -⟩ := h5.uniq h5
  have hV := hV.up hB
  have hR := hR.up hB
  have hro := hro.up hB
  have oq := oq.up hB
  have B := B.trans (hB.mono B.size)
  clear hB
  simp (maxSteps := 1000000) (disch := omega) only [WS, List.getElem_cons_zero, List.getElem_cons_succ, Option.isNone_some, Option.isNone_none, List.getD_cons_zero, List.getD_cons_succ, I.at, atL, atO, atP, evp, evs, retV, ↓reduceIte, Nat.reduceEqDiff, reduceCtorEq, AS, hro.Xld (show 1 < _ by simp), hro.Xld (show 3 < _ by simp)]
  refine X_call0 ((culletref14_Inverse_spec w5 V LV a hV hl).mono ?_)
  intro v6 w6 h6
  have hB := h6.1
  obtain ⟨s1, s2, m, e2, e3, rfl, o1, o2, lm⟩ := h5.uniq h6
  cases e3
  have o1 := o1.sl
  have o2 := o2.sl
  have hV := hV.up hB
  have hR := hR.up hB
  have hro := hro.up hB
  have oq := oq.up hB
  have o1 := o1.up hB
  have B := B.trans (hB.mono B.size)
  clear hB
  clear h5 h6
  simp (maxSteps := 1000000) (disch := omega) only [WS, List.getElem_cons_zero, List.getElem_cons_succ, Option.isNone_some, Option.isNone_none, List.getD_cons_zero, List.getD_cons_succ, I.at, atL, atO, atP, evp, evs, retV, ↓reduceIte, Nat.reduceEqDiff, reduceCtorEq, AS, show ∀ e : Int, decide (e = e) = true from fun e => decide_eq_true rfl]
  refine X_call0 ((culletlaw14_alike_spec w6 _ _ m m o1 o2 (by omega) (by omega)).mono ?_)
  rintro _ w7 ⟨rfl, hL⟩
  rw [decide_eq_true rfl]
  have hB := hL.1
  have hV := hV.up hB
  have hR := hR.up hB
  have hro := hro.up hB
  have oq := oq.up hB
  have B := B.trans (hB.mono B.size)
  clear hB
  simp (maxSteps := 1000000) (disch := omega) only [WS, List.getElem_cons_zero, List.getElem_cons_succ, Option.isNone_some, Option.isNone_none, List.getD_cons_zero, List.getD_cons_succ, I.at, atL, atO, atP, evp, evs, retV, ↓reduceIte, Nat.reduceEqDiff, reduceCtorEq, AS, hro.Xld (show 1 < _ by simp)]
  refine X_call0 ((culletlaw14_alike_spec w7 q V LV LV oq hV (by omega) (by omega)).mono ?_)
  rintro _ w8 ⟨rfl, hL2⟩
  rw [decide_eq_true rfl]
  have hB := hL2.1
  have B := B.trans (hB.mono B.size)
  clear hB
  simp (maxSteps := 1000000) (disch := omega) only [WS, List.getElem_cons_zero, List.getElem_cons_succ, Option.isNone_some, Option.isNone_none, List.getD_cons_zero, List.getD_cons_succ, I.at, atL, atO, atP, evp, evs, retV, ↓reduceIte, Nat.reduceEqDiff, reduceCtorEq, AS]
  exact B
set_option maxHeartbeats 4000000 in
theorem culletlaw14_one5_spec (w : World) (V Rs : Value) (LV : List (El 16)) (hin : List Hd) (R : Nat → List (El 16)) (a n : Int) (hV : Sl w V LV) (hl : LV.length ≤ 70368744175616) (hR : Rin w Rs hin R) (s1 : scal V = true) (s2 : scal Rs = true) :
    CallV Try.prog 42 [.agg #[.int .i64 5, V, Rs, .int .i64 a, .int .i64 n]] w fun v w' => v = .bool true ∧ RowKit.Below w.heap.size w w' := by
  refine run_culletlaw14_one (by simp) ?_
  simp only [c_culletlaw14_one, WS, List.getElem_cons_zero, List.getElem_cons_succ, Option.isNone_some, Option.isNone_none, List.getD_cons_zero, List.getD_cons_succ, I.at, atL, atO, atP, evp, evs, retV, ↓reduceIte, Nat.reduceEqDiff, reduceCtorEq]
  refine X_box fun bo w1 hro hbo hB => ?_
  have hro : Row w1 bo [.int .i64 5, V, Rs, .int .i64 a, .int .i64 n] := hro
  have B := hB
  have hV := hV.up hB
  have hR := hR.up hB
  clear hB
  simp (maxSteps := 1000000) (disch := omega) only [WS, List.getElem_cons_zero, List.getElem_cons_succ, Option.isNone_some, Option.isNone_none, List.getD_cons_zero, List.getD_cons_succ, I.at, atL, atO, atP, evp, evs, retV, ↓reduceIte, Nat.reduceEqDiff, reduceCtorEq, AS]
  refine X_bsl (zs := ([] : List (El 16))) (by rfl) (by rfl) fun p w2 op hB => ?_
  have hV2 := hV.up hB
  have hro2 := hro.up hB
  simp (maxSteps := 1000000) (disch := omega) only [WS, List.getElem_cons_zero, List.getElem_cons_succ, Option.isNone_some, Option.isNone_none, List.getD_cons_zero, List.getD_cons_succ, I.at, atL, atO, atP, evp, evs, retV, ↓reduceIte, Nat.reduceEqDiff, reduceCtorEq, AS, hro2.Xld (show 1 < _ by simp)]
  refine op.Xapp2 hV2 hB.size (by simp only [List.length_nil, maxBytes]; omega) (by simp only [List.length_nil]; omega) fun q w3 oq hg => ?_
  rw [List.nil_append] at oq
  have hB := hg.below hB hB.size fun b hb => (op.blk b hb).1
  clear hg op hV2 hro2
  have oq := oq.sl
  have hV := hV.up hB
  have hR := hR.up hB
  have hro := hro.up hB
  have B := B.trans (hB.mono B.size)
  clear hB
  simp (maxSteps := 1000000) (disch := omega) only [WS, List.getElem_cons_zero, List.getElem_cons_succ, Option.isNone_some, Option.isNone_none, List.getD_cons_zero, List.getD_cons_succ, I.at, atL, atO, atP, evp, evs, retV, ↓reduceIte, Nat.reduceEqDiff, reduceCtorEq, AS, hro.Xld (show 0 < _ by simp), show decide ((5 : Int) = 1) = false from rfl, show decide ((5 : Int) = 2) = false from rfl, show decide ((5 : Int) = 3) = false from rfl, show decide ((5 : Int) = 4) = false from rfl, show decide ((5 : Int) = 5) = true from rfl, show decide ((5 : Int) = 6) = false from rfl, hro.Xld (show 3 < _ by simp), hro.Xld (show 4 < _ by simp)]
  refine X_call0 ((afft_Extend_spec w3 q LV a n oq hl).mono ?_)
  intro v5 w5 h5
  have h5 : PE w3 LV a n v5 w5 := h5
  have hB := h5.1
  obtain ⟨sv, _, _, e, rfl, -, -, -, -⟩ := h5.uniq h5
  have hV := hV.up hB
  have hR := hR.up hB
  have hro := hro.up hB
  have oq := oq.up hB
  have B := B.trans (hB.mono B.size)
  clear hB
  simp (maxSteps := 1000000) (disch := omega) only [WS, List.getElem_cons_zero, List.getElem_cons_succ, Option.isNone_some, Option.isNone_none, List.getD_cons_zero, List.getD_cons_succ, I.at, atL, atO, atP, evp, evs, retV, ↓reduceIte, Nat.reduceEqDiff, reduceCtorEq, AS, hro.Xld (show 1 < _ by simp), hro.Xld (show 3 < _ by simp), hro.Xld (show 4 < _ by simp)]
  refine X_call0 ((culletref14_Extend_spec w5 V LV a n hV hl).mono ?_)
  intro v6 w6 h6
  have hB := h6.1
  obtain ⟨s1, s2, m, e2, e3, rfl, o1, o2, lm⟩ := h5.uniq h6
  cases e3
  have o1 := o1.sl
  have o2 := o2.sl
  have hV := hV.up hB
  have hR := hR.up hB
  have hro := hro.up hB
  have oq := oq.up hB
  have o1 := o1.up hB
  have B := B.trans (hB.mono B.size)
  clear hB
  clear h5 h6
  simp (maxSteps := 1000000) (disch := omega) only [WS, List.getElem_cons_zero, List.getElem_cons_succ, Option.isNone_some, Option.isNone_none, List.getD_cons_zero, List.getD_cons_succ, I.at, atL, atO, atP, evp, evs, retV, ↓reduceIte, Nat.reduceEqDiff, reduceCtorEq, AS, show ∀ e : Int, decide (e = e) = true from fun e => decide_eq_true rfl]
  refine X_call0 ((culletlaw14_alike_spec w6 _ _ m m o1 o2 (by omega) (by omega)).mono ?_)
  rintro _ w7 ⟨rfl, hL⟩
  rw [decide_eq_true rfl]
  have hB := hL.1
  have hV := hV.up hB
  have hR := hR.up hB
  have hro := hro.up hB
  have oq := oq.up hB
  have B := B.trans (hB.mono B.size)
  clear hB
  simp (maxSteps := 1000000) (disch := omega) only [WS, List.getElem_cons_zero, List.getElem_cons_succ, Option.isNone_some, Option.isNone_none, List.getD_cons_zero, List.getD_cons_succ, I.at, atL, atO, atP, evp, evs, retV, ↓reduceIte, Nat.reduceEqDiff, reduceCtorEq, AS, hro.Xld (show 1 < _ by simp)]
  refine X_call0 ((culletlaw14_alike_spec w7 q V LV LV oq hV (by omega) (by omega)).mono ?_)
  rintro _ w8 ⟨rfl, hL2⟩
  rw [decide_eq_true rfl]
  have hB := hL2.1
  have B := B.trans (hB.mono B.size)
  clear hB
  simp (maxSteps := 1000000) (disch := omega) only [WS, List.getElem_cons_zero, List.getElem_cons_succ, Option.isNone_some, Option.isNone_none, List.getD_cons_zero, List.getD_cons_succ, I.at, atL, atO, atP, evp, evs, retV, ↓reduceIte, Nat.reduceEqDiff, reduceCtorEq, AS]
  exact B
set_option maxHeartbeats 4000000 in
theorem culletlaw14_one6_spec (w : World) (V Rs : Value) (LV : List (El 16)) (hin : List Hd) (R : Nat → List (El 16)) (a n : Int) (hV : Sl w V LV) (hl : LV.length ≤ 70368744175616) (hR : Rin w Rs hin R) (s1 : scal V = true) (s2 : scal Rs = true) :
    CallV Try.prog 42 [.agg #[.int .i64 6, V, Rs, .int .i64 a, .int .i64 n]] w fun v w' => v = .bool true ∧ RowKit.Below w.heap.size w w' := by
  refine run_culletlaw14_one (by simp) ?_
  simp only [c_culletlaw14_one, WS, List.getElem_cons_zero, List.getElem_cons_succ, Option.isNone_some, Option.isNone_none, List.getD_cons_zero, List.getD_cons_succ, I.at, atL, atO, atP, evp, evs, retV, ↓reduceIte, Nat.reduceEqDiff, reduceCtorEq]
  refine X_box fun bo w1 hro hbo hB => ?_
  have hro : Row w1 bo [.int .i64 6, V, Rs, .int .i64 a, .int .i64 n] := hro
  have B := hB
  have hV := hV.up hB
  have hR := hR.up hB
  clear hB
  simp (maxSteps := 1000000) (disch := omega) only [WS, List.getElem_cons_zero, List.getElem_cons_succ, Option.isNone_some, Option.isNone_none, List.getD_cons_zero, List.getD_cons_succ, I.at, atL, atO, atP, evp, evs, retV, ↓reduceIte, Nat.reduceEqDiff, reduceCtorEq, AS]
  refine X_bsl (zs := ([] : List (El 16))) (by rfl) (by rfl) fun p w2 op hB => ?_
  have hV2 := hV.up hB
  have hro2 := hro.up hB
  simp (maxSteps := 1000000) (disch := omega) only [WS, List.getElem_cons_zero, List.getElem_cons_succ, Option.isNone_some, Option.isNone_none, List.getD_cons_zero, List.getD_cons_succ, I.at, atL, atO, atP, evp, evs, retV, ↓reduceIte, Nat.reduceEqDiff, reduceCtorEq, AS, hro2.Xld (show 1 < _ by simp)]
  refine op.Xapp2 hV2 hB.size (by simp only [List.length_nil, maxBytes]; omega) (by simp only [List.length_nil]; omega) fun q w3 oq hg => ?_
  rw [List.nil_append] at oq
  have hB := hg.below hB hB.size fun b hb => (op.blk b hb).1
  clear hg op hV2 hro2
  have oq := oq.sl
  have hV := hV.up hB
  have hR := hR.up hB
  have hro := hro.up hB
  have B := B.trans (hB.mono B.size)
  clear hB
  simp (maxSteps := 1000000) (disch := omega) only [WS, List.getElem_cons_zero, List.getElem_cons_succ, Option.isNone_some, Option.isNone_none, List.getD_cons_zero, List.getD_cons_succ, I.at, atL, atO, atP, evp, evs, retV, ↓reduceIte, Nat.reduceEqDiff, reduceCtorEq, AS, hro.Xld (show 0 < _ by simp), show decide ((6 : Int) = 1) = false from rfl, show decide ((6 : Int) = 2) = false from rfl, show decide ((6 : Int) = 3) = false from rfl, show decide ((6 : Int) = 4) = false from rfl, show decide ((6 : Int) = 5) = false from rfl, show decide ((6 : Int) = 6) = true from rfl, hro.Xld (show 4 < _ by simp), hro.Xld (show 3 < _ by simp)]
  refine X_call0 ((afft_Fold_spec w3 q LV n a oq hl).mono ?_)
  intro v5 w5 h5
  have h5 : PO w3 LV n a v5 w5 := h5
  have hB := h5.1
  obtain ⟨sv, _, _, e, rfl, -, -, -, -⟩ := h5.uniq h5
  have hV := hV.up hB
  have hR := hR.up hB
  have hro := hro.up hB
  have oq := oq.up hB
  have B := B.trans (hB.mono B.size)
  clear hB
  simp (maxSteps := 1000000) (disch := omega) only [WS, List.getElem_cons_zero, List.getElem_cons_succ, Option.isNone_some, Option.isNone_none, List.getD_cons_zero, List.getD_cons_succ, I.at, atL, atO, atP, evp, evs, retV, ↓reduceIte, Nat.reduceEqDiff, reduceCtorEq, AS, hro.Xld (show 1 < _ by simp), hro.Xld (show 4 < _ by simp), hro.Xld (show 3 < _ by simp)]
  refine X_call0 ((culletref14_Fold_spec w5 V LV n a hV hl).mono ?_)
  intro v6 w6 h6
  have hB := h6.1
  obtain ⟨s1, s2, m, e2, e3, rfl, o1, o2, lm⟩ := h5.uniq h6
  cases e3
  have o1 := o1.sl
  have o2 := o2.sl
  have hV := hV.up hB
  have hR := hR.up hB
  have hro := hro.up hB
  have oq := oq.up hB
  have o1 := o1.up hB
  have B := B.trans (hB.mono B.size)
  clear hB
  clear h5 h6
  simp (maxSteps := 1000000) (disch := omega) only [WS, List.getElem_cons_zero, List.getElem_cons_succ, Option.isNone_some, Option.isNone_none, List.getD_cons_zero, List.getD_cons_succ, I.at, atL, atO, atP, evp, evs, retV, ↓reduceIte, Nat.reduceEqDiff, reduceCtorEq, AS, show ∀ e : Int, decide (e = e) = true from fun e => decide_eq_true rfl]
  refine X_call0 ((culletlaw14_alike_spec w6 _ _ m m o1 o2 (by omega) (by omega)).mono ?_)
  rintro _ w7 ⟨rfl, hL⟩
  rw [decide_eq_true rfl]
  have hB := hL.1
  have hV := hV.up hB
  have hR := hR.up hB
  have hro := hro.up hB
  have oq := oq.up hB
  have B := B.trans (hB.mono B.size)
  clear hB
  simp (maxSteps := 1000000) (disch := omega) only [WS, List.getElem_cons_zero, List.getElem_cons_succ, Option.isNone_some, Option.isNone_none, List.getD_cons_zero, List.getD_cons_succ, I.at, atL, atO, atP, evp, evs, retV, ↓reduceIte, Nat.reduceEqDiff, reduceCtorEq, AS, hro.Xld (show 1 < _ by simp)]
  refine X_call0 ((culletlaw14_alike_spec w7 q V LV LV oq hV (by omega) (by omega)).mono ?_)
  rintro _ w8 ⟨rfl, hL2⟩
  rw [decide_eq_true rfl]
  have hB := hL2.1
  have B := B.trans (hB.mono B.size)
  clear hB
  simp (maxSteps := 1000000) (disch := omega) only [WS, List.getElem_cons_zero, List.getElem_cons_succ, Option.isNone_some, Option.isNone_none, List.getD_cons_zero, List.getD_cons_succ, I.at, atL, atO, atP, evp, evs, retV, ↓reduceIte, Nat.reduceEqDiff, reduceCtorEq, AS]
  exact B
set_option maxHeartbeats 4000000 in
theorem culletlaw14_one3_spec (w : World) (V Rs : Value) (LV : List (El 16)) (hin : List Hd) (R : Nat → List (El 16)) (a n : Int) (hV : Sl w V LV) (hl : LV.length ≤ 70368744175616) (hR : Rin w Rs hin R) (s1 : scal V = true) (s2 : scal Rs = true) :
    CallV Try.prog 42 [.agg #[.int .i64 3, V, Rs, .int .i64 a, .int .i64 n]] w fun v w' => v = .bool true ∧ RowKit.Below w.heap.size w w' := by
  refine run_culletlaw14_one (by simp) ?_
  simp only [c_culletlaw14_one, WS, List.getElem_cons_zero, List.getElem_cons_succ, Option.isNone_some, Option.isNone_none, List.getD_cons_zero, List.getD_cons_succ, I.at, atL, atO, atP, evp, evs, retV, ↓reduceIte, Nat.reduceEqDiff, reduceCtorEq]
  refine X_box fun bo w1 hro hbo hB => ?_
  have hro : Row w1 bo [.int .i64 3, V, Rs, .int .i64 a, .int .i64 n] := hro
  have B := hB
  have hV := hV.up hB
  have hR := hR.up hB
  clear hB
  simp (maxSteps := 1000000) (disch := omega) only [WS, List.getElem_cons_zero, List.getElem_cons_succ, Option.isNone_some, Option.isNone_none, List.getD_cons_zero, List.getD_cons_succ, I.at, atL, atO, atP, evp, evs, retV, ↓reduceIte, Nat.reduceEqDiff, reduceCtorEq, AS]
  refine X_bsl (zs := ([] : List (El 16))) (by rfl) (by rfl) fun p w2 op hB => ?_
  have hV2 := hV.up hB
  have hro2 := hro.up hB
  simp (maxSteps := 1000000) (disch := omega) only [WS, List.getElem_cons_zero, List.getElem_cons_succ, Option.isNone_some, Option.isNone_none, List.getD_cons_zero, List.getD_cons_succ, I.at, atL, atO, atP, evp, evs, retV, ↓reduceIte, Nat.reduceEqDiff, reduceCtorEq, AS, hro2.Xld (show 1 < _ by simp)]
  refine op.Xapp2 hV2 hB.size (by simp only [List.length_nil, maxBytes]; omega) (by simp only [List.length_nil]; omega) fun q w3 oq hg => ?_
  rw [List.nil_append] at oq
  have hB := hg.below hB hB.size fun b hb => (op.blk b hb).1
  clear hg op hV2 hro2
  have oq := oq.sl
  have hV := hV.up hB
  have hR := hR.up hB
  have hro := hro.up hB
  have B := B.trans (hB.mono B.size)
  clear hB
  simp (maxSteps := 1000000) (disch := omega) only [WS, List.getElem_cons_zero, List.getElem_cons_succ, Option.isNone_some, Option.isNone_none, List.getD_cons_zero, List.getD_cons_succ, I.at, atL, atO, atP, evp, evs, retV, ↓reduceIte, Nat.reduceEqDiff, reduceCtorEq, AS, hro.Xld (show 0 < _ by simp), show decide ((3 : Int) = 1) = false from rfl, show decide ((3 : Int) = 2) = false from rfl, show decide ((3 : Int) = 3) = true from rfl, show decide ((3 : Int) = 4) = false from rfl, show decide ((3 : Int) = 5) = false from rfl, show decide ((3 : Int) = 6) = false from rfl, hro.Xldn (n := 5) rfl]
  refine X_call0 ((culletlaw14_inPlaceF_spec w3 V Rs hin R a n hR s1 s2).mono ?_)
  rintro _ w4 ⟨rfl, hB⟩
  have B := B.trans (hB.mono B.size)
  clear hB
  simp (maxSteps := 1000000) (disch := omega) only [WS, List.getElem_cons_zero, List.getElem_cons_succ, Option.isNone_some, Option.isNone_none, List.getD_cons_zero, List.getD_cons_succ, I.at, atL, atO, atP, evp, evs, retV, ↓reduceIte, Nat.reduceEqDiff, reduceCtorEq, AS]
  exact B
set_option maxHeartbeats 4000000 in
theorem culletlaw14_one4_spec (w : World) (V Rs : Value) (LV : List (El 16)) (hin : List Hd) (R : Nat → List (El 16)) (a n : Int) (hV : Sl w V LV) (hl : LV.length ≤ 70368744175616) (hR : Rin w Rs hin R) (s1 : scal V = true) (s2 : scal Rs = true) :
    CallV Try.prog 42 [.agg #[.int .i64 4, V, Rs, .int .i64 a, .int .i64 n]] w fun v w' => v = .bool true ∧ RowKit.Below w.heap.size w w' := by
  refine run_culletlaw14_one (by simp) ?_
  simp only [c_culletlaw14_one, WS, List.getElem_cons_zero, List.getElem_cons_succ, Option.isNone_some, Option.isNone_none, List.getD_cons_zero, List.getD_cons_succ, I.at, atL, atO, atP, evp, evs, retV, ↓reduceIte, Nat.reduceEqDiff, reduceCtorEq]
  refine X_box fun bo w1 hro hbo hB => ?_
  have hro : Row w1 bo [.int .i64 4, V, Rs, .int .i64 a, .int .i64 n] := hro
  have B := hB
  have hV := hV.up hB
  have hR := hR.up hB
  clear hB
  simp (maxSteps := 1000000) (disch := omega) only [WS, List.getElem_cons_zero, List.getElem_cons_succ, Option.isNone_some, Option.isNone_none, List.getD_cons_zero, List.getD_cons_succ, I.at, atL, atO, atP, evp, evs, retV, ↓reduceIte, Nat.reduceEqDiff, reduceCtorEq, AS]
  refine X_bsl (zs := ([] : List (El 16))) (by rfl) (by rfl) fun p w2 op hB => ?_
  have hV2 := hV.up hB
  have hro2 := hro.up hB
  simp (maxSteps := 1000000) (disch := omega) only [WS, List.getElem_cons_zero, List.getElem_cons_succ, Option.isNone_some, Option.isNone_none, List.getD_cons_zero, List.getD_cons_succ, I.at, atL, atO, atP, evp, evs, retV, ↓reduceIte, Nat.reduceEqDiff, reduceCtorEq, AS, hro2.Xld (show 1 < _ by simp)]
  refine op.Xapp2 hV2 hB.size (by simp only [List.length_nil, maxBytes]; omega) (by simp only [List.length_nil]; omega) fun q w3 oq hg => ?_
  rw [List.nil_append] at oq
  have hB := hg.below hB hB.size fun b hb => (op.blk b hb).1
  clear hg op hV2 hro2
  have oq := oq.sl
  have hV := hV.up hB
  have hR := hR.up hB
  have hro := hro.up hB
  have B := B.trans (hB.mono B.size)
  clear hB
  simp (maxSteps := 1000000) (disch := omega) only [WS, List.getElem_cons_zero, List.getElem_cons_succ, Option.isNone_some, Option.isNone_none, List.getD_cons_zero, List.getD_cons_succ, I.at, atL, atO, atP, evp, evs, retV, ↓reduceIte, Nat.reduceEqDiff, reduceCtorEq, AS, hro.Xld (show 0 < _ by simp), show decide ((4 : Int) = 1) = false from rfl, show decide ((4 : Int) = 2) = false from rfl, show decide ((4 : Int) = 3) = false from rfl, show decide ((4 : Int) = 4) = true from rfl, show decide ((4 : Int) = 5) = false from rfl, show decide ((4 : Int) = 6) = false from rfl, hro.Xldn (n := 5) rfl]
  refine X_call0 ((culletlaw14_inPlaceI_spec w3 V Rs hin R a n hR s1 s2).mono ?_)
  rintro _ w4 ⟨rfl, hB⟩
  have B := B.trans (hB.mono B.size)
  clear hB
  simp (maxSteps := 1000000) (disch := omega) only [WS, List.getElem_cons_zero, List.getElem_cons_succ, Option.isNone_some, Option.isNone_none, List.getD_cons_zero, List.getD_cons_succ, I.at, atL, atO, atP, evp, evs, retV, ↓reduceIte, Nat.reduceEqDiff, reduceCtorEq, AS]
  exact B
theorem culletlaw14_one_spec (w : World) (vs : List Value) (k : Int) (h : Op5 w vs k) (hk : 1 ≤ k ∧ k ≤ 6) : CallV Try.prog 42 [.agg vs.toArray] w fun v w' => v = .bool true ∧ RowKit.Below w.heap.size w w' := by
  obtain ⟨V, Rs, LV, hin, R, a, n, rfl, hV, hl, hR, s1, s2⟩ := h.ex
  have hk6 : k = 1 ∨ k = 2 ∨ k = 3 ∨ k = 4 ∨ k = 5 ∨ k = 6 := by omega
  rcases hk6 with rfl | rfl | rfl | rfl | rfl | rfl
  · exact culletlaw14_one1_spec w V Rs LV hin R a n hV hl hR s1 s2
  · exact culletlaw14_one2_spec w V Rs LV hin R a n hV hl hR s1 s2
  · exact culletlaw14_one3_spec w V Rs LV hin R a n hV hl hR s1 s2
  · exact culletlaw14_one4_spec w V Rs LV hin R a n hV hl hR s1 s2
  · exact culletlaw14_one5_spec w V Rs LV hin R a n hV hl hR s1 s2
  · exact culletlaw14_one6_spec w V Rs LV hin R a n hV hl hR s1 s2
end Go.Proofs.Ytpmfeaajpjjfiaa.Fw
