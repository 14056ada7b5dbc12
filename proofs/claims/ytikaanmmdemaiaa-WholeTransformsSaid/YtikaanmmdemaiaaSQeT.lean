import Derived.Test.YtikaanmmdemaiaaProg
import Derived.Test.YtikaanmmdemaiaaFwTT
import Derived.Test.YtikaanmmdemaiaaSQdT
set_option linter.all false
set_option linter.unusedVariables false
set_option linter.unusedSimpArgs false
set_option maxRecDepth 100000
set_option maxHeartbeats 1000000
namespace Go.Proofs.Ytikaanmmdemaiaa.Fw
open Go Go.Fw Go.Proofs
attribute [local irreducible] stepI
def c_lch_ToMonomials : C := .seq (.ops [⟨0, (some 2), none, .mov (.c (.slice none 0 0)), []⟩, ⟨1, (some 3), none, .mov (.c (.int .i64 0)), []⟩]) (.seq (.seq (.ops [⟨0, (some 9), none, .mov (.t 0), []⟩, ⟨1, (some 10), none, .len (.t 9), []⟩, ⟨2, (some 11), none, .call (.c (.func (.func 40) #[] #[])) [.t 10, .c (.int .i64 256)], []⟩, ⟨3, (some 12), none, .un .not (.t 11), []⟩]) (.ite (.t 12) (.seq (.ops [⟨0, (some 2), none, .mov (.c (.slice none 0 0)), []⟩, ⟨1, (some 3), none, .mov (.c (.int .i64 130)), []⟩]) .ret) .skip)) (.seq (.ops [⟨0, (some 13), none, .mov (.t 0), []⟩, ⟨1, (some 14), none, .len (.t 13), []⟩, ⟨2, (some 15), none, .mks 26 2 [.int .u16 0] (.t 14) (.t 14), []⟩, ⟨3, (some 4), none, .mov (.t 15), []⟩]) (.seq (.seq (.ops [⟨0, (some 16), none, .mov (.t 0), []⟩, ⟨1, (some 17), none, .len (.t 16), []⟩, ⟨2, (some 18), none, .call (.c (.func (.func 41) #[] #[])) [.t 17], []⟩, ⟨3, (some 19), none, .len (.t 18), []⟩, ⟨4, (some 20), none, .mov (.c (.int .i64 0)), []⟩]) (.block 0 (.loop (.seq (.ops [⟨0, (some 21), none, .bin .lss (.t 20) (.t 19), []⟩]) (.seq (.ite (.t 21) .skip (.exit 0)) (.seq (.block 1 (.seq (.ops [⟨0, (some 22), none, .mov (.t 20), []⟩, ⟨1, (some 23), none, .ixs 1 (.t 18) (.t 20), []⟩, ⟨2, (some 24), none, .ld (.t 23), []⟩, ⟨3, (some 5), none, .mov (.t 22), []⟩, ⟨4, (some 6), none, .mov (.t 24), []⟩]) (.seq (.seq (.ops [⟨0, (some 25), none, .mov (.t 0), []⟩, ⟨1, (some 26), none, .mov (.t 5), []⟩, ⟨2, (some 27), none, .ixs 1 (.t 25) (.t 26), []⟩, ⟨3, (some 28), none, .ld (.t 27), []⟩, ⟨4, (some 29), none, .bin .eql (.t 28) (.c (.int .u16 0)), []⟩]) (.ite (.t 29) (.exit 1) .skip)) (.seq (.ops [⟨0, (some 30), none, .mov (.t 6), []⟩, ⟨1, (some 31), none, .len (.t 30), []⟩, ⟨2, (some 32), none, .mov (.c (.int .i64 0)), []⟩]) (.block 2 (.loop (.seq (.ops [⟨0, (some 33), none, .bin .lss (.t 32) (.t 31), []⟩]) (.seq (.ite (.t 33) .skip (.exit 2)) (.seq (.block 3 (.seq (.ops [⟨0, (some 34), none, .mov (.t 32), []⟩, ⟨1, (some 35), none, .ixs 1 (.t 30) (.t 32), []⟩, ⟨2, (some 36), none, .ld (.t 35), []⟩, ⟨3, (some 7), none, .mov (.t 34), []⟩, ⟨4, (some 8), none, .mov (.t 36), []⟩]) (.dops [⟨0, (some 37), none, .mov (.t 4), []⟩, ⟨1, (some 38), none, .mov (.t 7), []⟩, ⟨2, (some 39), none, .ixs 1 (.t 37) (.t 38), []⟩, ⟨3, (some 40), none, .ld (.t 39), []⟩, ⟨4, (some 41), none, .mov (.t 0), []⟩, ⟨5, (some 42), none, .mov (.t 5), []⟩, ⟨6, (some 43), none, .ixs 1 (.t 41) (.t 42), []⟩, ⟨7, (some 44), none, .ld (.t 43), []⟩, ⟨8, (some 45), none, .mov (.t 8), []⟩, ⟨9, (some 46), none, .call (.c (.func (.func 34) #[] #[])) [.t 44, .t 45], [3]⟩, ⟨10, (some 47), none, .bin .xor (.t 40) (.t 46), []⟩, ⟨11, (some 48), none, .ixs 1 (.t 37) (.t 38), []⟩, ⟨12, none, none, .st (.t 48) (.t 47), []⟩]))) (.ops [⟨0, (some 49), none, .bin .add (.t 32) (.c (.int .i64 1)), []⟩, ⟨1, (some 32), none, .mov (.t 49), []⟩])))))))))) (.ops [⟨0, (some 50), none, .bin .add (.t 20) (.c (.int .i64 1)), []⟩, ⟨1, (some 20), none, .mov (.t 50), []⟩]))))))) (.seq (.ops [⟨0, (some 51), none, .mov (.t 4), []⟩, ⟨1, (some 2), none, .mov (.t 51), []⟩, ⟨2, (some 3), none, .mov (.c (.int .i64 0)), []⟩]) .ret))))
attribute [irreducible] c_lch_ToMonomials
theorem run_lch_ToMonomials {args : List Value} {w : World} {K : Value → World → Prop} (hn : args.length ≤ 52) (h : WP Try.prog c_lch_ToMonomials (endQ [.t 2, .t 3] K) (initT args) w) : CallV Try.prog 21 args w K :=
  call_of follows Try.func21 (by kernel_rfl) (by kernel_rfl) hn h
end Go.Proofs.Ytikaanmmdemaiaa.Fw
namespace Go.Proofs.Ytikaanmmdemaiaa.Fw
open Go Go.Fw
theorem pow_of_and8 {n : Nat} (h : 1 ≤ n ∧ n ≤ 256 ∧ n &&& (n - 1) = 0) : ∃ k, k ≤ 8 ∧ n = 2 ^ k := by
  obtain ⟨k, hk⟩ := pow_of_and n n (Nat.le_refl _) (by omega) h.2.2
  refine ⟨k, ?_, hk⟩
  rcases Nat.lt_or_ge 8 k with hlt | hge
  · have := Nat.pow_le_pow_right (show 0 < 2 by omega) hlt
    omega
  · exact hge
theorem lch_ToMonomials_spec (w : World) (s : Value) (l : List (El 16)) (h : Sl w s l) (hb : l.length ≤ 70368744175616) : CallV Try.prog 21 [s] w fun v w' => RowKit.Below w.heap.size w w' ∧
    ((∃ k, k ≤ 8 ∧ l.length = 2 ^ k ∧ ∃ sv m, v = .tuple #[sv, .int .i64 0] ∧ Ow w.heap.size w' sv m ∧ m.length = 2 ^ k ∧ co m = mP k (co l).c (2 ^ k)) ∨ (¬ (1 ≤ l.length ∧ l.length ≤ 256 ∧ l.length &&& (l.length - 1) = 0) ∧ v = .tuple #[.slice none 0 0, .int .i64 130])) := by
  refine run_lch_ToMonomials (by simp) ?_
  simp only [c_lch_ToMonomials, WS, List.getElem_cons_zero, List.getElem_cons_succ, Option.isNone_some, Option.isNone_none, List.getD_cons_zero, List.getD_cons_succ, I.at, atL, atO, atP, evp, evs, retV, ↓reduceIte, Nat.reduceEqDiff, reduceCtorEq, h.Xlen]
  refine X_call0 ((lch_power_spec w l.length 256 (by omega) (by omega)).mono ?_)
  rintro _ w ⟨rfl, rfl⟩
  by_cases hp : 1 ≤ l.length ∧ l.length ≤ 256 ∧ l.length &&& (l.length - 1) = 0
  rotate_left
  · simp (maxSteps := 1000000) (disch := omega) only [WS, List.getElem_cons_zero, List.getElem_cons_succ, Option.isNone_some, Option.isNone_none, List.getD_cons_zero, List.getD_cons_succ, I.at, atL, atO, atP, evp, evs, retV, ↓reduceIte, Nat.reduceEqDiff, reduceCtorEq, AS]
    exact ⟨RowKit.Below.refl _ _, Or.inr hp⟩
  obtain ⟨k, hk, hlk⟩ := pow_of_and8 hp
  have hd : decide (1 ≤ l.length ∧ l.length ≤ 256 ∧ l.length &&& (l.length - 1) = 0) = true := decide_eq_true hp
  rw [hlk] at hd hp
  have h0 := Nat.two_pow_pos k
  have h8 : 2 ^ k ≤ 256 := hp.2.1
  clear hp
  have hbig : 2 * 2 ^ k ≤ maxBytes := by simp only [maxBytes]; omega
  simp (maxSteps := 1000000) (disch := omega) only [WS, List.getElem_cons_zero, List.getElem_cons_succ, Option.isNone_some, Option.isNone_none, List.getD_cons_zero, List.getD_cons_succ, I.at, atL, atO, atP, evp, evs, retV, ↓reduceIte, Nat.reduceEqDiff, reduceCtorEq, AS, hd, h.Xlen, hlk]
  refine X_mks (x := (0 : El 16)) hbig (by omega) fun sv w1 ov hB => ?_
  have B := hB
  have hvn : Fw.blk sv ≠ none := ov.bne (by intro e; have := congrArg List.length e; simp at this)
  have hvb : ∀ b, Fw.blk sv = some b → b < w1.heap.size := fun b hb => (ov.blk b hb).2
  clear hB
  simp (maxSteps := 1000000) (disch := omega) only [WS, List.getElem_cons_zero, List.getElem_cons_succ, Option.isNone_some, Option.isNone_none, List.getD_cons_zero, List.getD_cons_succ, I.at, atL, atO, atP, evp, evs, retV, ↓reduceIte, Nat.reduceEqDiff, reduceCtorEq, AS, (h.up B).Xlen, hlk]
  refine X_call0 ((lch_bases_spec w1 k hk).mono ?_)
  rintro sb w2 ⟨hB, hs, L, b1, hl, hL⟩
  have hoff : ∀ b, Fw.blk sv = some b → Off sb hs b := fun b hb => b1.off (Or.inl (hvb b hb))
  have b1 := (⟨b1.own.mono B.size, fun j hj => (b1.row j hj).mono B.size, b1.ne, b1.two, b1.lst⟩ : Bas (α := El 16) w.heap.size w2 sb hs L)
  have ov := ov.up hB
  have B := B.trans (hB.mono B.size)
  clear hB
  simp (maxSteps := 1000000) (disch := omega) only [WS, List.getElem_cons_zero, List.getElem_cons_succ, Option.isNone_some, Option.isNone_none, List.getD_cons_zero, List.getD_cons_succ, I.at, atL, atO, atP, evp, evs, retV, ↓reduceIte, Nat.reduceEqDiff, reduceCtorEq, AS, b1.own.sl.Xlen, hl]
  refine loop_of (fun t w' => t 0 = s ∧ t 4 = sv ∧ t 18 = sb ∧ t 19 = .int .i64 ((2 ^ k : Nat) : Int) ∧ RowKit.Below w.heap.size w w' ∧ Bas w.heap.size w' sb hs L ∧ ∃ (j : Nat) (m : List (El 16)), t 20 = .int .i64 (j : Int) ∧ j ≤ 2 ^ k ∧ Ow w.heap.size w' sv m ∧ m.length = 2 ^ k ∧ co m = mP k (co l).c j)
    (fun t _ => 2 ^ k - (toI (t 20)).toNat) ⟨by simp only [WS, List.getElem_cons_zero, List.getElem_cons_succ, Option.isNone_some, Option.isNone_none, List.getD_cons_zero, List.getD_cons_succ, I.at, atL, atO, atP, evp, evs, retV, ↓reduceIte, Nat.reduceEqDiff, reduceCtorEq], by simp only [WS, List.getElem_cons_zero, List.getElem_cons_succ, Option.isNone_some, Option.isNone_none, List.getD_cons_zero, List.getD_cons_succ, I.at, atL, atO, atP, evp, evs, retV, ↓reduceIte, Nat.reduceEqDiff, reduceCtorEq], by simp only [WS, List.getElem_cons_zero, List.getElem_cons_succ, Option.isNone_some, Option.isNone_none, List.getD_cons_zero, List.getD_cons_succ, I.at, atL, atO, atP, evp, evs, retV, ↓reduceIte, Nat.reduceEqDiff, reduceCtorEq], by simp only [WS, List.getElem_cons_zero, List.getElem_cons_succ, Option.isNone_some, Option.isNone_none, List.getD_cons_zero, List.getD_cons_succ, I.at, atL, atO, atP, evp, evs, retV, ↓reduceIte, Nat.reduceEqDiff, reduceCtorEq], B, b1, 0, _, rfl, by omega, ov, List.length_replicate .., by rw [co_replicate]; rfl⟩ ?_
  clear B b1 ov
  rintro t w3 ⟨t0, t4, t18, t19, B, b1, j, m, t20, hj, ov, ml, mc⟩
  by_cases hjk : j < 2 ^ k
  · have jl : j < l.length := by omega
    have jh : j < hs.length := by omega
    have hrow := b1.get jh
    obtain ⟨lj1, lj2⟩ := hL j hjk
    have hm1 : mP k (co l).c (j + 1) = mP k (co l).c j + smP l[j] (xP k j) := by rw [← co_get l jl]; rfl
    by_cases hz : l[j] = 0
    · have d1 : decide ((l[j].v.toNat : Int) = 0) = true := decide_eq_true ((el_zero _).mpr hz)
      simp (maxSteps := 1000000) (disch := omega) only [WS, List.getElem_cons_zero, List.getElem_cons_succ, Option.isNone_some, Option.isNone_none, List.getD_cons_zero, List.getD_cons_succ, I.at, atL, atO, atP, evp, evs, retV, ↓reduceIte, Nat.reduceEqDiff, reduceCtorEq, AS, t0, t4, t18, t19, t20, b1.own.sl.Xix jh, b1.own.sl.Xld jh, (h.up B).Xix jl, (h.up B).Xld jl, cell_e16, d1]
      refine ⟨⟨B, b1, j + 1, m, rfl, by omega, ov, ml, ?_⟩, by omega⟩
      rw [hm1, hz, zero_smP, Ps.add_zero, mc]
    · have d1 : decide ((l[j].v.toNat : Int) = 0) = false := decide_eq_false (fun e => hz ((el_zero _).mp e))
      simp (maxSteps := 1000000) (disch := omega) only [WS, List.getElem_cons_zero, List.getElem_cons_succ, Option.isNone_some, Option.isNone_none, List.getD_cons_zero, List.getD_cons_succ, I.at, atL, atO, atP, evp, evs, retV, ↓reduceIte, Nat.reduceEqDiff, reduceCtorEq, AS, t0, t4, t18, t19, t20, b1.own.sl.Xix jh, b1.own.sl.Xld jh, (h.up B).Xix jl, (h.up B).Xld jl, cell_e16, d1, hrow.sl.Xlen, lj1]
      refine loop_of (fun t w' => t 0 = s ∧ t 4 = sv ∧ t 5 = .int .i64 (j : Int) ∧ t 18 = sb ∧ t 19 = .int .i64 ((2 ^ k : Nat) : Int) ∧ t 20 = .int .i64 (j : Int) ∧ t 30 = Cell.v hs[j] ∧ t 31 = .int .i64 ((2 ^ k : Nat) : Int) ∧ RowKit.Below w.heap.size w w' ∧ Bas w.heap.size w' sb hs L ∧
          ∃ (e : Nat) (m : List (El 16)), t 32 = .int .i64 (e : Int) ∧ e ≤ 2 ^ k ∧ Ow w.heap.size w' sv m ∧ m.length = 2 ^ k ∧ ∀ u, (co m).c u = (mP k (co l).c j).c u + (if u < e then l[j] * (xP k j).c u else 0)) (fun t _ => 2 ^ k - (toI (t 32)).toNat)
        ⟨by simp only [WS, List.getElem_cons_zero, List.getElem_cons_succ, Option.isNone_some, Option.isNone_none, List.getD_cons_zero, List.getD_cons_succ, I.at, atL, atO, atP, evp, evs, retV, ↓reduceIte, Nat.reduceEqDiff, reduceCtorEq]; exact t0, by simp only [WS, List.getElem_cons_zero, List.getElem_cons_succ, Option.isNone_some, Option.isNone_none, List.getD_cons_zero, List.getD_cons_succ, I.at, atL, atO, atP, evp, evs, retV, ↓reduceIte, Nat.reduceEqDiff, reduceCtorEq]; exact t4, by simp only [WS, List.getElem_cons_zero, List.getElem_cons_succ, Option.isNone_some, Option.isNone_none, List.getD_cons_zero, List.getD_cons_succ, I.at, atL, atO, atP, evp, evs, retV, ↓reduceIte, Nat.reduceEqDiff, reduceCtorEq], by simp only [WS, List.getElem_cons_zero, List.getElem_cons_succ, Option.isNone_some, Option.isNone_none, List.getD_cons_zero, List.getD_cons_succ, I.at, atL, atO, atP, evp, evs, retV, ↓reduceIte, Nat.reduceEqDiff, reduceCtorEq]; exact t18, by simp only [WS, List.getElem_cons_zero, List.getElem_cons_succ, Option.isNone_some, Option.isNone_none, List.getD_cons_zero, List.getD_cons_succ, I.at, atL, atO, atP, evp, evs, retV, ↓reduceIte, Nat.reduceEqDiff, reduceCtorEq]; exact t19, by simp only [WS, List.getElem_cons_zero, List.getElem_cons_succ, Option.isNone_some, Option.isNone_none, List.getD_cons_zero, List.getD_cons_succ, I.at, atL, atO, atP, evp, evs, retV, ↓reduceIte, Nat.reduceEqDiff, reduceCtorEq]; exact t20, by simp only [WS, List.getElem_cons_zero, List.getElem_cons_succ, Option.isNone_some, Option.isNone_none, List.getD_cons_zero, List.getD_cons_succ, I.at, atL, atO, atP, evp, evs, retV, ↓reduceIte, Nat.reduceEqDiff, reduceCtorEq], by simp only [WS, List.getElem_cons_zero, List.getElem_cons_succ, Option.isNone_some, Option.isNone_none, List.getD_cons_zero, List.getD_cons_succ, I.at, atL, atO, atP, evp, evs, retV, ↓reduceIte, Nat.reduceEqDiff, reduceCtorEq], B, b1, 0, m, rfl, by omega, ov, ml, fun u => by rw [if_neg (by omega), El.add_zero, mc]⟩ ?_
      clear t0 t4 t18 t19 t20 B b1 hrow ov ml mc
      rintro t w4 ⟨t0, t4, t5, t18, t19, t20, t30, t31, B, b1, e, m, t32, he, ov, ml, mc⟩
      have hrow := b1.get jh
      by_cases hek : e < 2 ^ k
      · have er : e < (L j).length := by omega
        have em : e < m.length := by omega
        simp (maxSteps := 1000000) (disch := omega) only [WS, List.getElem_cons_zero, List.getElem_cons_succ, Option.isNone_some, Option.isNone_none, List.getD_cons_zero, List.getD_cons_succ, I.at, atL, atO, atP, evp, evs, retV, ↓reduceIte, Nat.reduceEqDiff, reduceCtorEq, AS, t0, t4, t5, t18, t19, t20, t30, t31, t32, hrow.sl.Xix er, hrow.sl.Xld er, cell_e16]
        refine WP_dops ?_
        have hvd := ov.sl.drew
        have hsd := (h.up B).drew
        have see : Fw.sees Try.prog (.ld (.c (elP sv e))) w4.drew (.int .u16 (m[e].v.toNat : Int)) = True := hvd.sees em Try.prog
        simp (maxSteps := 1000000) (disch := omega) only [ES, List.mem_cons, List.not_mem_nil, implies_true, forall_const, WS, List.getElem_cons_zero, List.getElem_cons_succ, Option.isNone_some, Option.isNone_none, List.getD_cons_zero, List.getD_cons_succ, I.at, atL, atO, atP, evp, evs, retV, ↓reduceIte, Nat.reduceEqDiff, reduceCtorEq, AS, t0, t4, t5, t18, t19, t20, t30, t31, t32, hvd.Eix em, hvd.Eld em, hsd.Eix jl, hsd.Eld jl, cell_e16]
        refine E_call0 ((gf16_Mul_spec w4.drew l[j] (L j)[e]).mono ?_)
        rintro _ w5 ⟨rfl, rfl⟩
        simp (maxSteps := 1000000) (disch := omega) only [ES, List.mem_cons, List.not_mem_nil, implies_true, forall_const, WS, List.getElem_cons_zero, List.getElem_cons_succ, Option.isNone_some, Option.isNone_none, List.getD_cons_zero, List.getD_cons_succ, I.at, atL, atO, atP, evp, evs, retV, ↓reduceIte, Nat.reduceEqDiff, reduceCtorEq, AS, see, xor16, hvd.Eix em]
        refine Ow.Est ov.drew em (m[e] + l[j] * (L j)[e]) fun w6 ov6 hg6 => ?_
        simp (maxSteps := 1000000) (disch := omega) only [ES, List.mem_cons, List.not_mem_nil, implies_true, forall_const, WS, List.getElem_cons_zero, List.getElem_cons_succ, Option.isNone_some, Option.isNone_none, List.getD_cons_zero, List.getD_cons_succ, I.at, atL, atO, atP, evp, evs, retV, ↓reduceIte, Nat.reduceEqDiff, reduceCtorEq, AS, t0, t4, t5, t18, t19, t20, t30, t31, t32]
        refine ⟨⟨B.grown (grown_of_drew hg6) B.size fun b hb => (ov.blk b hb).1, b1.grw hoff hvn (grown_of_drew hg6), e + 1, _, rfl, by omega, ov6, by simp [ml], fun u => ?_⟩, by omega⟩
        rw [co_set _ em, mc u]
        by_cases hu : u = e
        · subst hu
          rw [if_pos rfl, if_pos (by omega), ← co_get m em, mc u, if_neg (by omega), El.add_zero, ← lj2, co_get (L j) er]
        · rw [if_neg hu]
          congr 1
          by_cases hue : u < e
          · rw [if_pos hue, if_pos (by omega)]
          · rw [if_neg hue, if_neg (by omega)]
      · obtain rfl : e = 2 ^ k := by omega
        simp (maxSteps := 1000000) (disch := omega) only [WS, List.getElem_cons_zero, List.getElem_cons_succ, Option.isNone_some, Option.isNone_none, List.getD_cons_zero, List.getD_cons_succ, I.at, atL, atO, atP, evp, evs, retV, ↓reduceIte, Nat.reduceEqDiff, reduceCtorEq, AS, t0, t4, t5, t18, t19, t20, t30, t31, t32]
        refine ⟨⟨B, b1, j + 1, m, rfl, by omega, ov, ml, ?_⟩, by omega⟩
        rw [hm1]
        refine Ps.ext fun u => ?_
        rw [mc u, Ps.add_c]
        congr 1
        show _ = l[j] * (xP k j).c u
        by_cases hu : u < 2 ^ k
        · rw [if_pos hu]
        · rw [if_neg hu, xP_dg k j hjk u (by omega), El.mul_zero]
  · obtain rfl : j = 2 ^ k := by omega
    simp (maxSteps := 1000000) (disch := omega) only [WS, List.getElem_cons_zero, List.getElem_cons_succ, Option.isNone_some, Option.isNone_none, List.getD_cons_zero, List.getD_cons_succ, I.at, atL, atO, atP, evp, evs, retV, ↓reduceIte, Nat.reduceEqDiff, reduceCtorEq, AS, t0, t4, t18, t19, t20]
    exact ⟨B, Or.inl ⟨k, hk, rfl, sv, m, rfl, ov, ml, mc⟩⟩
end Go.Proofs.Ytikaanmmdemaiaa.Fw
