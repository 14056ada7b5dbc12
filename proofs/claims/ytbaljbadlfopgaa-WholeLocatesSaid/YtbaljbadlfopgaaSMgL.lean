import Derived.Test.YtbaljbadlfopgaaProg
import Derived.Test.YtbaljbadlfopgaaFwTL
import Derived.Test.YtbaljbadlfopgaaSMaL
import Derived.Test.YtbaljbadlfopgaaGfPL
set_option linter.all false
set_option linter.unusedVariables false
set_option linter.unusedSimpArgs false
set_option maxRecDepth 100000
set_option maxHeartbeats 1000000
namespace Go.Proofs.Ytbaljbadlfopgaa.Fw
open Go Go.Fw Go.Proofs
attribute [local irreducible] stepI
def c_polys_Over16 : C := .seq (.ops [⟨0, (some 0), none, .mov (.c (.pointer none)), []⟩]) (.seq (.ops [⟨0, (some 1), none, .bld [.nilFunc, .nilFunc] [(0, (1, .c (.func (.func 70) #[] #[]))), (1, (1, .c (.func (.func 71) #[] #[])))], []⟩, ⟨1, (some 2), none, .box 135 (.t 1), []⟩, ⟨2, (some 0), none, .mov (.t 2), []⟩]) .ret)
attribute [irreducible] c_polys_Over16
theorem run_polys_Over16 {args : List Value} {w : World} {K : Value → World → Prop} (hn : args.length ≤ 3) (h : WP Try.prog c_polys_Over16 (endQ [.t 0] K) (initT args) w) : CallV Try.prog 36 args w K :=
  call_of follows Try.func36 (by kernel_rfl) (by kernel_rfl) hn h
def c_gf8_Tables_Mul : C := .seq (.ops [⟨0, (some 6), none, .mov (.c (.int .u8 0)), []⟩]) (.seq (.seq (.ops [⟨0, (some 7), none, .mov (.t 0), []⟩, ⟨1, (some 8), none, .eqp false (.t 7) (.c (.pointer none)), []⟩, ⟨2, (some 9), none, .mov (.t 8), []⟩, ⟨3, (some 10), (some (9, false)), .mov (.t 1), []⟩, ⟨4, (some 11), (some (9, false)), .bin .eql (.t 10) (.c (.int .u8 0)), []⟩, ⟨5, (some 12), none, .pick (.t 9) (.c (.bool true)) (.t 11), []⟩, ⟨6, (some 13), none, .mov (.t 12), []⟩, ⟨7, (some 14), (some (13, false)), .mov (.t 2), []⟩, ⟨8, (some 15), (some (13, false)), .bin .eql (.t 14) (.c (.int .u8 0)), []⟩, ⟨9, (some 16), none, .pick (.t 13) (.c (.bool true)) (.t 15), []⟩]) (.ite (.t 16) (.seq (.ops [⟨0, (some 6), none, .mov (.c (.int .u8 0)), []⟩]) .ret) .skip)) (.seq (.dops [⟨0, (some 17), none, .mov (.t 0), []⟩, ⟨1, (some 18), none, .mov (.t 0), []⟩, ⟨2, (some 19), none, .mov (.t 1), []⟩, ⟨3, (some 20), none, .nil (.t 18), []⟩, ⟨4, (some 21), none, .fad 510 (.t 20), []⟩, ⟨5, (some 22), none, .ixa 256 1 (.t 21) (.t 19), []⟩, ⟨6, (some 23), none, .ld (.t 22), []⟩, ⟨7, (some 24), none, .mov (.t 0), []⟩, ⟨8, (some 25), none, .mov (.t 2), []⟩, ⟨9, (some 26), none, .nil (.t 24), []⟩, ⟨10, (some 27), none, .fad 510 (.t 26), []⟩, ⟨11, (some 28), none, .ixa 256 1 (.t 27) (.t 25), []⟩, ⟨12, (some 29), none, .ld (.t 28), []⟩, ⟨13, (some 30), none, .bin .add (.t 23) (.t 29), []⟩, ⟨14, (some 31), none, .nil (.t 17), []⟩, ⟨15, (some 32), none, .fad 0 (.t 31), []⟩, ⟨16, (some 33), none, .ixa 510 1 (.t 32) (.t 30), []⟩, ⟨17, (some 34), none, .ld (.t 33), []⟩, ⟨18, (some 6), none, .mov (.t 34), []⟩]) .ret))
attribute [irreducible] c_gf8_Tables_Mul
theorem run_gf8_Tables_Mul {args : List Value} {w : World} {K : Value → World → Prop} (hn : args.length ≤ 35) (h : WP Try.prog c_gf8_Tables_Mul (endQ [.t 6] K) (initT args) w) : CallV Try.prog 85 args w K :=
  call_of follows Try.func85 (by kernel_rfl) (by kernel_rfl) hn h
def c_gf8_Tables_Inv : C := .seq (.ops [⟨0, (some 4), none, .mov (.c (.int .u8 0)), []⟩, ⟨1, (some 5), none, .mov (.c (.int .i64 0)), []⟩]) (.seq (.block 0 (.seq (.ops [⟨0, (some 7), none, .mov (.t 0), []⟩, ⟨1, (some 8), none, .eqp false (.t 7) (.c (.pointer none)), []⟩, ⟨2, (some 6), none, .mov (.t 8), []⟩]) (.ite (.t 6) (.seq (.ops [⟨0, (some 4), none, .mov (.c (.int .u8 0)), []⟩, ⟨1, (some 5), none, .mov (.c (.int .i64 1)), []⟩]) .ret) (.seq (.ops [⟨0, (some 10), none, .mov (.t 1), []⟩, ⟨1, (some 11), none, .bin .eql (.t 10) (.c (.int .u8 0)), []⟩, ⟨2, (some 9), none, .mov (.t 11), []⟩]) (.ite (.t 9) (.seq (.ops [⟨0, (some 4), none, .mov (.c (.int .u8 0)), []⟩, ⟨1, (some 5), none, .mov (.c (.int .i64 20)), []⟩]) .ret) .skip))))) (.seq (.dops [⟨0, (some 12), none, .mov (.t 0), []⟩, ⟨1, (some 13), none, .mov (.t 0), []⟩, ⟨2, (some 14), none, .mov (.t 1), []⟩, ⟨3, (some 15), none, .nil (.t 13), []⟩, ⟨4, (some 16), none, .fad 510 (.t 15), []⟩, ⟨5, (some 17), none, .ixa 256 1 (.t 16) (.t 14), []⟩, ⟨6, (some 18), none, .ld (.t 17), []⟩, ⟨7, (some 19), none, .bin .sub (.c (.int .i64 255)) (.t 18), []⟩, ⟨8, (some 20), none, .nil (.t 12), []⟩, ⟨9, (some 21), none, .fad 0 (.t 20), []⟩, ⟨10, (some 22), none, .ixa 510 1 (.t 21) (.t 19), []⟩, ⟨11, (some 23), none, .ld (.t 22), []⟩, ⟨12, (some 4), none, .mov (.t 23), []⟩, ⟨13, (some 5), none, .mov (.c (.int .i64 0)), []⟩]) .ret))
attribute [irreducible] c_gf8_Tables_Inv
theorem run_gf8_Tables_Inv {args : List Value} {w : World} {K : Value → World → Prop} (hn : args.length ≤ 24) (h : WP Try.prog c_gf8_Tables_Inv (endQ [.t 4, .t 5] K) (initT args) w) : CallV Try.prog 86 args w K :=
  call_of follows Try.func86 (by kernel_rfl) (by kernel_rfl) hn h
end Go.Proofs.Ytbaljbadlfopgaa.Fw
namespace Go.Proofs.Ytbaljbadlfopgaa.Fw
open Go Go.Fw
/-- The tables of the field of 256 elements. -/
def tabC (E L : List Nat) : List Value := E.map (fun n => .int .u8 (n : Int)) ++ L.map (fun n => .int .i64 (n : Int))
def Tab8 (w : World) (p : Value) : Prop := ∃ b E L, p = .pointer (some ⟨b, 0, none⟩) ∧ Row w b (tabC E L) ∧ E.length = 510 ∧ L.length = 256 ∧ (∀ j, j < 510 → E[j]? = some (gp j).toNat) ∧ ∀ j, j < 255 → L[(gp j).toNat]? = some j
theorem Tab8.up {w w' : World} {p : Value} (h : Tab8 w p) (hb : RowKit.Below w.heap.size w w') : Tab8 w' p := by
  obtain ⟨b, E, L, h1, h2, h3⟩ := h
  exact ⟨b, E, L, h1, h2.up hb, h3⟩
theorem tab_exp {E L : List Nat} (hE : E.length = 510) {j : Nat} (hj : j < 510) (h : E[j]? = some (gp j).toNat) (hlt : j < (tabC E L).length) : (tabC E L)[j] = .int .u8 ((gp j).toNat : Int) := by
  have : (tabC E L)[j]? = some (.int .u8 ((gp j).toNat : Int)) := by
    unfold tabC
    rw [List.getElem?_append_left (by simp; omega), List.getElem?_map, h]; rfl
  rw [List.getElem?_eq_getElem hlt] at this
  exact Option.some.inj this
theorem tab_log {E L : List Nat} (hE : E.length = 510) {a j : Nat} (h : L[a]? = some j) (hlt : 510 + a < (tabC E L).length) : (tabC E L)[510 + a] = .int .i64 (j : Int) := by
  have : (tabC E L)[510 + a]? = some (.int .i64 (j : Int)) := by
    unfold tabC
    rw [List.getElem?_append_right (by simp; omega), List.length_map, hE, Nat.add_sub_cancel_left, List.getElem?_map, h]; rfl
  rw [List.getElem?_eq_getElem hlt] at this
  exact Option.some.inj this
theorem gf8_Tables_Mul_spec (w : World) (p : Value) (h : Tab8 w p) (a b : El 8) : CallV Try.prog 85 [p, .int .u8 (a.v.toNat : Int), .int .u8 (b.v.toNat : Int)] w fun v w' => v = .int .u8 ((a * b).v.toNat : Int) ∧ Like w w' := by
  obtain ⟨bl, E, L, rfl, hr, hE, hL, hp, hl⟩ := h
  have hlen : (tabC E L).length = 766 := by simp [tabC, hE, hL]
  have ha := a.v.isLt
  have hb := b.v.isLt
  refine run_gf8_Tables_Mul (by simp) ?_
  by_cases ha0 : a = 0
  · subst ha0
    simp only [c_gf8_Tables_Mul, WS, List.getElem_cons_zero, List.getElem_cons_succ, Option.isNone_some, Option.isNone_none, List.getD_cons_zero, List.getD_cons_succ, I.at, atL, atO, atP, evp, evs, retV, ↓reduceIte, Nat.reduceEqDiff, reduceCtorEq, El.zero_mul]
    simp only [WS, List.getElem_cons_zero, List.getElem_cons_succ, Option.isNone_some, Option.isNone_none, List.getD_cons_zero, List.getD_cons_succ, I.at, atL, atO, atP, evp, evs, retV, ↓reduceIte, Nat.reduceEqDiff, reduceCtorEq, show decide ((((0 : El 8).v.toNat : Nat) : Int) = 0) = true from rfl]
    exact ⟨rfl, Like.refl w⟩
  by_cases hb0 : b = 0
  · subst hb0
    have d1 : decide ((a.v.toNat : Int) = 0) = false := decide_eq_false (by rw [el_zero]; exact ha0)
    simp only [c_gf8_Tables_Mul, WS, List.getElem_cons_zero, List.getElem_cons_succ, Option.isNone_some, Option.isNone_none, List.getD_cons_zero, List.getD_cons_succ, I.at, atL, atO, atP, evp, evs, retV, ↓reduceIte, Nat.reduceEqDiff, reduceCtorEq, d1, El.mul_zero]
    simp only [WS, List.getElem_cons_zero, List.getElem_cons_succ, Option.isNone_some, Option.isNone_none, List.getD_cons_zero, List.getD_cons_succ, I.at, atL, atO, atP, evp, evs, retV, ↓reduceIte, Nat.reduceEqDiff, reduceCtorEq, show decide ((((0 : El 8).v.toNat : Nat) : Int) = 0) = true from rfl]
    exact ⟨rfl, Like.refl w⟩
  have d1 : decide ((a.v.toNat : Int) = 0) = false := decide_eq_false (by rw [el_zero]; exact ha0)
  have d2 : decide ((b.v.toNat : Int) = 0) = false := decide_eq_false (by rw [el_zero]; exact hb0)
  obtain ⟨i, hi, ei⟩ := gp_ex a.v (fun e => ha0 (El.ext e))
  obtain ⟨j, hj, ej⟩ := gp_ex b.v (fun e => hb0 (El.ext e))
  have hli := hl i hi
  have hlj := hl j hj
  rw [ei] at hli
  rw [ej] at hlj
  have wi : IntKind.i64.wrap ((i : Int) + (j : Int)) = ((i + j : Nat) : Int) := by rw [wrap_id (by omega) (by omega)]; omega
  simp only [c_gf8_Tables_Mul, WS, List.getElem_cons_zero, List.getElem_cons_succ, Option.isNone_some, Option.isNone_none, List.getD_cons_zero, List.getD_cons_succ, I.at, atL, atO, atP, evp, evs, retV, ↓reduceIte, Nat.reduceEqDiff, reduceCtorEq, d1, d2]
  refine WP_dops ?_
  simp only [ES, List.mem_cons, List.not_mem_nil, implies_true, forall_const, WS, List.getElem_cons_zero, List.getElem_cons_succ, Option.isNone_some, Option.isNone_none, List.getD_cons_zero, List.getD_cons_succ, I.at, atL, atO, atP, evp, evs, retV, ↓reduceIte, Nat.reduceEqDiff, reduceCtorEq, E_ixa (show a.v.toNat < 256 from ha), E_ixa (show b.v.toNat < 256 from hb), addr_add0, Nat.zero_add, Nat.mul_one, Nat.add_zero,
    hr.drew.Eld (show 510 + a.v.toNat < _ by omega), hr.drew.Eld (show 510 + b.v.toNat < _ by omega), tab_log hE hli, tab_log hE hlj, wi, E_ixa (show i + j < 510 by omega), hr.drew.Eld (show i + j < _ by omega), tab_exp hE (show i + j < 510 by omega) (hp (i + j) (by omega))]
  refine ⟨congrArg (fun z : BitVec 8 => Value.int .u8 (z.toNat : Int)) ?_, Like.drew w⟩
  rw [← gp_mul, ei, ej]; rfl
theorem gf8_Tables_Inv_spec (w : World) (p : Value) (h : Tab8 w p) (a : El 8) (ha0 : a ≠ 0) : CallV Try.prog 86 [p, .int .u8 (a.v.toNat : Int)] w fun v w' => v = .tuple #[.int .u8 (a.inv.v.toNat : Int), .int .i64 0] ∧ Like w w' := by
  obtain ⟨bl, E, L, rfl, hr, hE, hL, hp, hl⟩ := h
  have hlen : (tabC E L).length = 766 := by simp [tabC, hE, hL]
  have ha := a.v.isLt
  refine run_gf8_Tables_Inv (by simp) ?_
  have d1 : decide ((a.v.toNat : Int) = 0) = false := decide_eq_false (by rw [el_zero]; exact ha0)
  obtain ⟨i, hi, ei⟩ := gp_ex a.v (fun e => ha0 (El.ext e))
  have hli := hl i hi
  rw [ei] at hli
  have wi : IntKind.i64.wrap (255 - (i : Int)) = ((255 - i : Nat) : Int) := by rw [wrap_id (by omega) (by omega)]; omega
  simp only [c_gf8_Tables_Inv, WS, List.getElem_cons_zero, List.getElem_cons_succ, Option.isNone_some, Option.isNone_none, List.getD_cons_zero, List.getD_cons_succ, I.at, atL, atO, atP, evp, evs, retV, ↓reduceIte, Nat.reduceEqDiff, reduceCtorEq, d1]
  refine WP_dops ?_
  simp only [ES, List.mem_cons, List.not_mem_nil, implies_true, forall_const, WS, List.getElem_cons_zero, List.getElem_cons_succ, Option.isNone_some, Option.isNone_none, List.getD_cons_zero, List.getD_cons_succ, I.at, atL, atO, atP, evp, evs, retV, ↓reduceIte, Nat.reduceEqDiff, reduceCtorEq, E_ixa (show a.v.toNat < 256 from ha), addr_add0, Nat.zero_add, Nat.mul_one, Nat.add_zero,
    hr.drew.Eld (show 510 + a.v.toNat < _ by omega), tab_log hE hli, wi, E_ixa (show 255 - i < 510 by omega), hr.drew.Eld (show 255 - i < _ by omega), tab_exp hE (show 255 - i < 510 by omega) (hp (255 - i) (by omega))]
  have : a.inv = ⟨gp (255 - i)⟩ := by
    have h1 : a * ⟨gp (255 - i)⟩ = 1 := by
      apply El.ext
      show bmul r8 a.v (gp (255 - i)) = 1
      rw [← ei, gp_mul, show i + (255 - i) = 255 by omega, gp_255]
    have h2 := El.mul_inv a ha0
    calc a.inv = a.inv * (a * ⟨gp (255 - i)⟩) := by rw [h1, El.mul_one]
      _ = a * a.inv * ⟨gp (255 - i)⟩ := by ac_rfl
      _ = _ := by rw [h2, El.one_mul]
  rw [this]
  exact ⟨rfl, Like.drew w⟩
end Go.Proofs.Ytbaljbadlfopgaa.Fw

namespace Go.Proofs.Ytbaljbadlfopgaa.Fw
open Go Go.Fw
/-- The ring's two functions. -/
def Mul_w (w : World) (v : Value) : Prop := v = .func (.func 70) #[] #[]
def Inv_w (w : World) (v : Value) : Prop := v = .func (.func 71) #[] #[]
def Mul_b (w : World) (v : Value) : Prop := ∃ p, v = .func (.func 85) #[p] #[] ∧ Tab8 w p
def Inv_b (w : World) (v : Value) : Prop := ∃ p, v = .func (.func 86) #[p] #[] ∧ Tab8 w p
def Ring_w (w : World) (r : Value) : Prop := ∃ b mv iv, r = .pointer (some ⟨b, 0, none⟩) ∧ Row w b [mv, iv] ∧ Mul_w w mv ∧ Inv_w w iv
def Ring_b (w : World) (r : Value) : Prop := ∃ b mv iv, r = .pointer (some ⟨b, 0, none⟩) ∧ Row w b [mv, iv] ∧ Mul_b w mv ∧ Inv_b w iv
theorem Ring_w.up {w w' : World} {r : Value} (h : Ring_w w r) (hb : RowKit.Below w.heap.size w w') : Ring_w w' r := by
  obtain ⟨b, mv, iv, h1, h2, h3, h4⟩ := h
  exact ⟨b, mv, iv, h1, h2.up hb, h3, h4⟩
theorem Ring_b.up {w w' : World} {r : Value} (h : Ring_b w r) (hb : RowKit.Below w.heap.size w w') : Ring_b w' r := by
  obtain ⟨b, mv, iv, h1, h2, ⟨p, h3, h4⟩, ⟨q, h5, h6⟩⟩ := h
  exact ⟨b, mv, iv, h1, h2.up hb, ⟨p, h3, h4.up hb⟩, ⟨q, h5, h6.up hb⟩⟩
theorem Ring_w.drew {w : World} {r : Value} (h : Ring_w w r) : Ring_w w.drew r := h.up (bel_drew w)
theorem Ring_b.drew {w : World} {r : Value} (h : Ring_b w r) : Ring_b w.drew r := h.up (bel_drew w)
theorem Mul_w.call {w : World} {v : Value} (h : Mul_w w v) (x y : El 16) {K : Value → World → Prop} (hk : ∀ w', Like w w' → K (.int .u16 ((x * y).v.toNat : Int)) w') : callK Try.prog v [.int .u16 (x.v.toNat : Int), .int .u16 (y.v.toNat : Int)] w K := by
  obtain rfl := h
  refine (gf16_Mul_spec w x y).mono ?_
  rintro _ _ ⟨rfl, rfl⟩
  exact hk _ (Like.refl _)
theorem Mul_b.call {w : World} {v : Value} (h : Mul_b w v) (x y : El 8) {K : Value → World → Prop} (hk : ∀ w', Like w w' → K (.int .u8 ((x * y).v.toNat : Int)) w') : callK Try.prog v [.int .u8 (x.v.toNat : Int), .int .u8 (y.v.toNat : Int)] w K := by
  obtain ⟨p, rfl, ht⟩ := h
  refine (gf8_Tables_Mul_spec w p ht x y).mono ?_
  rintro _ _ ⟨rfl, hl⟩
  exact hk _ hl
theorem polys_Over16_spec (w : World) : CallV Try.prog 36 [] w fun v w' => Ring_w w' v ∧ RowKit.Below w.heap.size w w' ∧ ∀ w2, Stays w w' w2 → Ring_w w2 v := by
  refine run_polys_Over16 (by simp) ?_
  simp only [c_polys_Over16, WS, List.getElem_cons_zero, List.getElem_cons_succ, Option.isNone_some, Option.isNone_none, List.getD_cons_zero, List.getD_cons_succ, I.at, atL, atO, atP, evp, evs, retV, ↓reduceIte, Nat.reduceEqDiff, reduceCtorEq, X_bld]
  refine X_box ?_
  intro b w' hr hb hB
  simp only [WS, List.getElem_cons_zero, List.getElem_cons_succ, Option.isNone_some, Option.isNone_none, List.getD_cons_zero, List.getD_cons_succ, I.at, atL, atO, atP, evp, evs, retV, ↓reduceIte, Nat.reduceEqDiff, reduceCtorEq]
  exact ⟨⟨b, _, _, rfl, hr, rfl, rfl⟩, hB, fun w2 hs => ⟨b, _, _, rfl, hr.stays hb hs, rfl, rfl⟩⟩
end Go.Proofs.Ytbaljbadlfopgaa.Fw
