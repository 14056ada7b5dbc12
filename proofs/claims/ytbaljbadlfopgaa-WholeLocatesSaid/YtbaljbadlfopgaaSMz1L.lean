import Derived.Test.YtbaljbadlfopgaaProg
import Derived.Test.YtbaljbadlfopgaaFwTL
import Derived.Test.YtbaljbadlfopgaaSMyL
import Derived.Test.YtbaljbadlfopgaaSMaL
set_option linter.all false
set_option linter.unusedVariables false
set_option linter.unusedSimpArgs false
set_option maxRecDepth 100000
set_option maxHeartbeats 1000000
namespace Go.Proofs.Ytbaljbadlfopgaa.Fw
open Go Go.Fw Go.Proofs
attribute [local irreducible] stepI
def c_gf16_Tables_Exp : C := .seq (.ops [⟨0, (some 4), none, .mov (.c (.int .u16 0)), []⟩]) (.seq (.seq (.ops [⟨0, (some 5), none, .mov (.t 0), []⟩, ⟨1, (some 6), none, .eqp false (.t 5) (.c (.pointer none)), []⟩]) (.ite (.t 6) (.seq (.ops [⟨0, (some 4), none, .mov (.c (.int .u16 0)), []⟩]) .ret) .skip)) (.seq (.dops [⟨0, (some 7), none, .mov (.t 0), []⟩, ⟨1, (some 8), none, .mov (.t 1), []⟩, ⟨2, (some 9), none, .call (.c (.func (.func 113) #[] #[])) [.t 8], []⟩, ⟨3, (some 10), none, .nil (.t 7), []⟩, ⟨4, (some 11), none, .fad 0 (.t 10), []⟩, ⟨5, (some 12), none, .ixa 65535 1 (.t 11) (.t 9), []⟩, ⟨6, (some 13), none, .ld (.t 12), []⟩, ⟨7, (some 4), none, .mov (.t 13), []⟩]) .ret))
attribute [irreducible] c_gf16_Tables_Exp
theorem run_gf16_Tables_Exp {args : List Value} {w : World} {K : Value → World → Prop} (hn : args.length ≤ 14) (h : WP Try.prog c_gf16_Tables_Exp (endQ [.t 4] K) (initT args) w) : CallV Try.prog 75 args w K :=
  call_of follows Try.func75 (by kernel_rfl) (by kernel_rfl) hn h
def c_gf16_residue : C := .seq (.ops [⟨0, (some 2), none, .mov (.c (.int .i64 0)), []⟩]) (.seq (.ops [⟨0, (some 4), none, .mov (.t 0), []⟩, ⟨1, (some 5), none, .bin .rem (.t 4) (.c (.int .i64 65535)), []⟩, ⟨2, (some 3), none, .mov (.t 5), []⟩]) (.seq (.seq (.ops [⟨0, (some 6), none, .mov (.t 3), []⟩, ⟨1, (some 7), none, .bin .lss (.t 6) (.c (.int .i64 0)), []⟩]) (.ite (.t 7) (.ops [⟨0, (some 8), none, .mov (.t 3), []⟩, ⟨1, (some 9), none, .bin .add (.t 8) (.c (.int .i64 65535)), []⟩, ⟨2, (some 3), none, .mov (.t 9), []⟩]) .skip)) (.seq (.ops [⟨0, (some 10), none, .mov (.t 3), []⟩, ⟨1, (some 2), none, .mov (.t 10), []⟩]) .ret)))
attribute [irreducible] c_gf16_residue
theorem run_gf16_residue {args : List Value} {w : World} {K : Value → World → Prop} (hn : args.length ≤ 11) (h : WP Try.prog c_gf16_residue (endQ [.t 2] K) (initT args) w) : CallV Try.prog 113 args w K :=
  call_of follows Try.func113 (by kernel_rfl) (by kernel_rfl) hn h
def c_gf16_Basis : C := .seq (.ops [⟨0, (some 0), none, .mov (.c (.slice none 0 0)), []⟩]) (.seq (.ops [⟨0, (some 2), none, .call (.c (.func (.func 108) #[] #[])) [], []⟩, ⟨1, (some 1), none, .alloc 181 (List.replicate 16 (.int .u16 0)), []⟩, ⟨2, none, none, .stn 16 (.t 1) (.t 2), []⟩]) (.seq (.ops [⟨0, (some 3), none, .bsl 73 0 [.int .u16 0] [], []⟩, ⟨1, (some 4), none, .sla 16 1 (.t 1) none none none, []⟩, ⟨2, (some 5), none, .app 73 2 [.int .u16 0] (.t 3) (.t 4), []⟩, ⟨3, (some 0), none, .mov (.t 5), []⟩]) .ret))
attribute [irreducible] c_gf16_Basis
theorem run_gf16_Basis {args : List Value} {w : World} {K : Value → World → Prop} (hn : args.length ≤ 6) (h : WP Try.prog c_gf16_Basis (endQ [.t 0] K) (initT args) w) : CallV Try.prog 142 args w K :=
  call_of follows Try.func142 (by kernel_rfl) (by kernel_rfl) hn h
def c_gf16_Tables_Log : C := .seq (.ops [⟨0, (some 4), none, .mov (.c (.int .i64 0)), []⟩, ⟨1, (some 5), none, .mov (.c (.int .i64 0)), []⟩]) (.seq (.seq (.ops [⟨0, (some 6), none, .mov (.t 0), []⟩, ⟨1, (some 7), none, .eqp false (.t 6) (.c (.pointer none)), []⟩]) (.ite (.t 7) (.seq (.ops [⟨0, (some 4), none, .mov (.c (.int .i64 0)), []⟩, ⟨1, (some 5), none, .mov (.c (.int .i64 1)), []⟩]) .ret) .skip)) (.seq (.seq (.ops [⟨0, (some 8), none, .mov (.t 1), []⟩, ⟨1, (some 9), none, .bin .eql (.t 8) (.c (.int .u16 0)), []⟩]) (.ite (.t 9) (.seq (.ops [⟨0, (some 4), none, .mov (.c (.int .i64 0)), []⟩, ⟨1, (some 5), none, .mov (.c (.int .i64 20)), []⟩]) .ret) .skip)) (.seq (.ops [⟨0, (some 10), none, .mov (.t 0), []⟩, ⟨1, (some 11), none, .mov (.t 1), []⟩, ⟨2, (some 12), none, .nil (.t 10), []⟩, ⟨3, (some 13), none, .fad 65535 (.t 12), []⟩, ⟨4, (some 14), none, .ixa 65536 1 (.t 13) (.t 11), []⟩, ⟨5, (some 15), none, .ld (.t 14), []⟩, ⟨6, (some 16), none, .cnv .i64 (.t 15), []⟩, ⟨7, (some 4), none, .mov (.t 16), []⟩, ⟨8, (some 5), none, .mov (.c (.int .i64 0)), []⟩]) .ret)))
attribute [irreducible] c_gf16_Tables_Log
theorem run_gf16_Tables_Log {args : List Value} {w : World} {K : Value → World → Prop} (hn : args.length ≤ 17) (h : WP Try.prog c_gf16_Tables_Log (endQ [.t 4, .t 5] K) (initT args) w) : CallV Try.prog 143 args w K :=
  call_of follows Try.func143 (by kernel_rfl) (by kernel_rfl) hn h
end Go.Proofs.Ytbaljbadlfopgaa.Fw
namespace Go.Proofs.Ytbaljbadlfopgaa.Fw
open Go Go.Fw
def basE : List (El 16) := cbs.map fun c => ⟨c⟩
theorem basE_v : basE.map Cell.v = basV := by kernel_rfl
theorem X_sla0 {P : Program} {d : Option Nat} {l : List D} {Q : T → World → Prop} {t : T} {w : World} {n b : Nat} (h : W P Q l (put t d (.slice (some ⟨b, 0, none⟩) (n + 1) (n + 1))) w) : XW P (.sla (n + 1) 1 (.c (.pointer (some ⟨b, 0, none⟩))) none none none) d l Q t w := by
  show W P Q l (put t d (slV (some ⟨b, 0, none⟩) 1 0 (n + 1) (n + 1))) w
  have : slV (some ⟨b, 0, none⟩) 1 0 (n + 1) (n + 1) = .slice (some ⟨b, 0, none⟩) (n + 1) (n + 1) := by
    unfold slV
    rw [if_neg (by omega)]
    rfl
  rw [this]
  exact h
theorem gf16_Basis_spec (w : World) : CallV Try.prog 142 [] w fun v w' => Ow w.heap.size w' v basE ∧ RowKit.Below w.heap.size w w' := by
  refine run_gf16_Basis (by simp) ?_
  have hl : basE.length = 16 := rfl
  unfold c_gf16_Basis
  generalize hz : List.replicate 16 (Value.int .u16 0) = z
  have hzl : z.length = 16 := by rw [← hz]; exact List.length_replicate ..
  have hbv : basV.length = 16 := rfl
  have hsc : ∀ u ∈ basV, scal u = true := by simp [basV, scal]
  have hbe := basE_v
  clear hz
  simp only [WS, List.getElem_cons_zero, List.getElem_cons_succ, Option.isNone_some, Option.isNone_none, List.getD_cons_zero, List.getD_cons_succ, I.at, atL, atO, atP, evp, evs, retV, ↓reduceIte, Nat.reduceEqDiff, reduceCtorEq]
  refine X_call0 ((gf16_basis_spec w).mono ?_)
  rintro _ w1 ⟨rfl, hB⟩
  have B := hB
  clear hB
  generalize basV = bv at *
  simp (maxSteps := 1000000) (disch := omega) only [WS, List.getElem_cons_zero, List.getElem_cons_succ, Option.isNone_some, Option.isNone_none, List.getD_cons_zero, List.getD_cons_succ, I.at, atL, atO, atP, evp, evs, retV, ↓reduceIte, Nat.reduceEqDiff, reduceCtorEq, AS]
  refine X_alloc fun b3 w2 hr3 hb3 hB => ?_
  simp (maxSteps := 1000000) (disch := omega) only [WS, List.getElem_cons_zero, List.getElem_cons_succ, Option.isNone_some, Option.isNone_none, List.getD_cons_zero, List.getD_cons_succ, I.at, atL, atO, atP, evp, evs, retV, ↓reduceIte, Nat.reduceEqDiff, reduceCtorEq, AS]
  refine Row.Xstn (vs := bv) hr3 hbv hsc hzl fun w3 hr hg => ?_
  have hB := Below.row hB hb3 hg
  have B := B.trans (hB.mono B.size)
  have hs : Sl w3 (.slice (some ⟨b3, 0, none⟩) (15 + 1) (15 + 1)) basE := by
    refine Ow.sl (B := 0) (Or.inr ⟨b3, 16, [], by rw [hl], Nat.zero_le _, by rw [hl]; rfl, ?_⟩)
    rw [hbe, List.append_nil]; exact hr
  clear hB
  generalize basE = be at *
  simp (maxSteps := 1000000) (disch := omega) only [WS, List.getElem_cons_zero, List.getElem_cons_succ, Option.isNone_some, Option.isNone_none, List.getD_cons_zero, List.getD_cons_succ, I.at, atL, atO, atP, evp, evs, retV, ↓reduceIte, Nat.reduceEqDiff, reduceCtorEq, AS]
  refine X_bsl (zs := ([] : List (El 16))) (by rfl) (by rfl) fun e0 w4 oe hB => ?_
  have oe := oe.mono B.size
  have hs := hs.up hB
  have B := B.trans (hB.mono B.size)
  clear hB
  simp (maxSteps := 1000000) (disch := omega) only [WS, List.getElem_cons_zero, List.getElem_cons_succ, Option.isNone_some, Option.isNone_none, List.getD_cons_zero, List.getD_cons_succ, I.at, atL, atO, atP, evp, evs, retV, ↓reduceIte, Nat.reduceEqDiff, reduceCtorEq, AS]
  refine X_sla0 (n := 15) ?_
  simp (maxSteps := 1000000) (disch := omega) only [WS, List.getElem_cons_zero, List.getElem_cons_succ, Option.isNone_some, Option.isNone_none, List.getD_cons_zero, List.getD_cons_succ, I.at, atL, atO, atP, evp, evs, retV, ↓reduceIte, Nat.reduceEqDiff, reduceCtorEq, AS]
  refine Ow.Xapp oe hs B.size (by rw [hl]; decide) (by rw [hl]; decide) fun e1 w5 oe1 hg _ => ?_
  rw [List.nil_append] at oe1
  have B := Below.app B B.size hg fun b hb => (oe.blk b hb).1
  simp (maxSteps := 1000000) (disch := omega) only [WS, List.getElem_cons_zero, List.getElem_cons_succ, Option.isNone_some, Option.isNone_none, List.getD_cons_zero, List.getD_cons_succ, I.at, atL, atO, atP, evp, evs, retV, ↓reduceIte, Nat.reduceEqDiff, reduceCtorEq, AS]
  exact ⟨oe1, B⟩
theorem basE_get : ∀ i (hi : i < basE.length), basE[i] = wel (2 ^ i) := by
  have h : ∀ i : Fin 16, (cbs.getD i.val 0) = (wel (2 ^ i.val)).v := by decide +kernel
  intro i hi
  have hi16 : i < 16 := hi
  have := h ⟨i, hi16⟩
  rw [List.getD_eq_getElem?_getD, List.getElem?_eq_getElem (show i < cbs.length from hi16)] at this
  have e : basE[i] = ⟨cbs[i]'(show i < cbs.length from hi16)⟩ := List.getElem_map ..
  exact El.ext ((congrArg El.v e).trans this)
theorem gf16_Tables_Log_spec (w : World) (p : Value) (h : Tab16 w p) (a : El 16) (ha0 : a ≠ 0) : CallV Try.prog 143 [p, .int .u16 (a.v.toNat : Int)] w fun v w' => w' = w ∧ ∃ n, v = .tuple #[.int .i64 ((n : Nat) : Int), .int .i64 0] ∧ n < 65535 ∧ gq n = a.v := by
  obtain ⟨bl, T, rfl, hr, hT, hp, hl⟩ := h
  have hlen : (tabQ T).length = 131071 := by unfold tabQ; rw [List.length_map]; exact hT
  have ha := a.v.isLt
  refine run_gf16_Tables_Log (by simp) ?_
  have d1 : decide ((a.v.toNat : Int) = 0) = false := decide_eq_false (by rw [el_zero16]; exact ha0)
  obtain ⟨i, hi, ei⟩ := gq_ex a.v (fun e => ha0 (El.ext e))
  have hli := hl i hi
  rw [ei] at hli
  have wa : IntKind.i64.wrap ((i : Nat) : Int) = (i : Int) := wrap_id (by omega) (by omega)
  simp only [c_gf16_Tables_Log, WS, List.getElem_cons_zero, List.getElem_cons_succ, Option.isNone_some, Option.isNone_none, List.getD_cons_zero, List.getD_cons_succ, I.at, atL, atO, atP, evp, evs, retV, ↓reduceIte, Nat.reduceEqDiff, reduceCtorEq, d1]
  simp only [WS, List.getElem_cons_zero, List.getElem_cons_succ, Option.isNone_some, Option.isNone_none, List.getD_cons_zero, List.getD_cons_succ, I.at, atL, atO, atP, evp, evs, retV, ↓reduceIte, Nat.reduceEqDiff, reduceCtorEq, X_ixa (show a.v.toNat < 65536 from ha), addr_add0, Nat.zero_add, Nat.mul_one, Nat.add_zero,
    hr.Xld (show 65535 + a.v.toNat < _ by omega), tabQ_get (show 65535 + a.v.toNat < (tabQ T).length by omega) hli, wa]
  exact ⟨i, rfl, hi, ei⟩
theorem gf16_Tables_Exp_spec (w : World) (p : Value) (h : Tab16 w p) (n : Nat) (hn : n < 65536) : CallV Try.prog 75 [p, .int .i64 (n : Int)] w fun v w' => v = .int .u16 ((gq n).toNat : Int) ∧ Like w w' := by
  obtain ⟨bl, T, rfl, hr, hT, hp, hl⟩ := h
  have hlen : (tabQ T).length = 131071 := by unfold tabQ; rw [List.length_map]; exact hT
  have hm : n % 65535 < 65535 := Nat.mod_lt _ (by decide)
  have hpe := hp (n % 65535) hm
  rw [gq_wrap] at hpe
  refine run_gf16_Tables_Exp (by simp) ?_
  have hres : ∀ w, CallV Try.prog 113 [.int .i64 (n : Int)] w fun v w' => v = .int .i64 ((n % 65535 : Nat) : Int) ∧ w' = w := fun w => by
    refine run_gf16_residue (by simp) ?_
    have hne : ((65535 : Int) ≠ 0) = True := eq_true (by decide)
    simp only [c_gf16_residue, WS, List.getElem_cons_zero, List.getElem_cons_succ, Option.isNone_some, Option.isNone_none, List.getD_cons_zero, List.getD_cons_succ, I.at, atL, atO, atP, evp, evs, retV, ↓reduceIte, Nat.reduceEqDiff, reduceCtorEq, X_rem, hne, tm_q]
    simp (maxSteps := 1000000) (disch := omega) only [WS, List.getElem_cons_zero, List.getElem_cons_succ, Option.isNone_some, Option.isNone_none, List.getD_cons_zero, List.getD_cons_succ, I.at, atL, atO, atP, evp, evs, retV, ↓reduceIte, Nat.reduceEqDiff, reduceCtorEq, AS]
  simp only [c_gf16_Tables_Exp, WS, List.getElem_cons_zero, List.getElem_cons_succ, Option.isNone_some, Option.isNone_none, List.getD_cons_zero, List.getD_cons_succ, I.at, atL, atO, atP, evp, evs, retV, ↓reduceIte, Nat.reduceEqDiff, reduceCtorEq]
  refine WP_dops ?_
  simp only [ES, List.mem_cons, List.not_mem_nil, implies_true, forall_const, WS, List.getElem_cons_zero, List.getElem_cons_succ, Option.isNone_some, Option.isNone_none, List.getD_cons_zero, List.getD_cons_succ, I.at, atL, atO, atP, evp, evs, retV, ↓reduceIte, Nat.reduceEqDiff, reduceCtorEq]
  refine E_call0 ((hres w.drew).mono ?_)
  rintro _ w1 ⟨rfl, rfl⟩
  simp (maxSteps := 1000000) (disch := omega) only [ES, List.mem_cons, List.not_mem_nil, implies_true, forall_const, WS, List.getElem_cons_zero, List.getElem_cons_succ, Option.isNone_some, Option.isNone_none, List.getD_cons_zero, List.getD_cons_succ, I.at, atL, atO, atP, evp, evs, retV, ↓reduceIte, Nat.reduceEqDiff, reduceCtorEq, AS, E_ixa hm, Nat.mul_one, hr.drew.Eld (show n % 65535 < _ by omega), tabQ_get (show n % 65535 < (tabQ T).length by omega) hpe]
  exact Like.drew w
end Go.Proofs.Ytbaljbadlfopgaa.Fw
