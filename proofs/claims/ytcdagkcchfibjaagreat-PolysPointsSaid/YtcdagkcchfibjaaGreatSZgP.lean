import Derived.Test.YtcdagkcchfibjaaGreatGfPP
import Derived.Test.YtcdagkcchfibjaaGreatProg
import Derived.Test.YtcdagkcchfibjaaGreatFwTP
import Derived.Test.YtcdagkcchfibjaaGreatSZeP
set_option linter.all false
/- Derivatives, and the products of linear factors. Plain maths. -/
set_option linter.unusedVariables false
set_option linter.unusedSectionVars false
namespace Go.Fw
variable {n : Nat}
def Ps.e (p : Nat) (f : Ps n) : Ps n := ⟨fun k => if (k + p) % 2 = 1 then f.c k else 0⟩
variable [F : Fd n]
theorem Dg.D {f : Ps n} {d : Nat} (h : Dg f d) : Dg f.D d := fun i hi => by
  show (if i % 2 = 0 then f.c (i + 1) else 0) = 0
  rw [h (i + 1) (by omega)]; split <;> rfl
theorem Dg.one : Dg (1 : Ps n) 1 := fun i hi => by show (if i = 0 then (1 : El n) else 0) = 0; rw [if_neg (by omega)]
theorem Dg.lin_mul {f : Ps n} {d : Nat} (a : El n) (h : Dg f d) : Dg (lin a * f) (d + 1) := ((lin_dg a).mul h).mono (by omega)
theorem vps_snoc (l : List (El n)) (a : El n) : vps (l ++ [a]) = lin a * vps l := by unfold vps; rw [List.foldl_append]; rfl
theorem snoc_ind {α : Type} {P : List α → Prop} (h0 : P []) (h1 : ∀ l a, P l → P (l ++ [a])) (l : List α) : P l := by
  have : ∀ m : List α, P m.reverse := by
    intro m
    induction m with
    | nil => exact h0
    | cons a m ih => rw [List.reverse_cons]; exact h1 _ _ ih
  have := this l.reverse
  rwa [List.reverse_reverse] at this
theorem vps_dg (l : List (El n)) : Dg (vps l) (l.length + 1) := by
  induction l using snoc_ind with
  | h0 => exact Dg.one
  | h1 l a ih => rw [vps_snoc, List.length_append]; exact ih.lin_mul a
/-- The value of a series with a bound. -/
theorem ev_lin_mul {f : Ps n} {d : Nat} (a x : El n) (h : Dg f d) : evn (lin a * f) x (d + 1) = (a + x) * evn f x d := by
  have h1 := evn_mul x (lin_dg a) h
  have h2 : evn (lin a) x 2 = a + x := by
    show a + x * (1 + x * 0) = _
    rw [El.mul_zero, El.add_zero, El.mul_one]
  rw [h2] at h1
  rw [← h1]
  exact evn_eq (h.lin_mul a) (((lin_dg a).mul h).mono (by omega))
theorem ev_vps_zero (x : El n) (l : List (El n)) : evn (vps l) x (l.length + 1) = 0 ↔ x ∈ l := by
  induction l using snoc_ind with
  | h0 =>
    show (if (0 : Nat) = 0 then (1 : El n) else 0) + x * 0 = 0 ↔ _
    rw [if_pos rfl, El.mul_zero, El.add_zero]
    exact ⟨fun h => absurd h El.one_ne, fun h => by cases h⟩
  | h1 l a ih =>
    rw [vps_snoc, List.length_append, List.length_singleton, ev_lin_mul a x (vps_dg l), El.mul_eq_zero, ih, El.add_eq_zero, List.mem_append, List.mem_singleton]
    exact ⟨fun h => by rcases h with h | h; · exact Or.inr h.symm
                       · exact Or.inl h, fun h => by rcases h with h | h; · exact Or.inr h
                                                     · exact Or.inl h.symm⟩
theorem ps_eq {f g : Ps n} (d : Nat) (hf : Dg f d) (hg : Dg g d) (h : ∀ i, i < d → f.c i = g.c i) : f = g := Ps.ext fun i => by
  by_cases hi : i < d
  · exact h i hi
  · rw [hf i (by omega), hg i (by omega)]
theorem vps_top (l : List (El n)) : (vps l).c l.length = 1 := by
  induction l using snoc_ind with
  | h0 => rfl
  | h1 l a ih =>
    rw [vps_snoc, List.length_append, List.length_singleton, lin_mul, vps_dg l _ (Nat.le_refl _), El.mul_zero, El.zero_add, if_neg (by omega), Nat.add_sub_cancel, ih]
theorem len_tr {p : List (El n)} (h : tr p = p) : p.length = tln p := by rw [← tr_len, h]
theorem tr_inj {p q : List (El n)} (hp : tr p = p) (hq : tr q = q) (h : co p = co q) : p = q := by rw [← hp, ← hq, tr_eq h]
end Go.Fw

set_option linter.unusedVariables false
set_option linter.unusedSimpArgs false
set_option maxRecDepth 100000
set_option maxHeartbeats 1000000
namespace Go.Proofs.YtcdagkcchfibjaaGreat.Fw
open Go Go.Fw Go.Proofs
attribute [local irreducible] stepI
def c_culletlaw04_both : C := .seq (.ops [⟨0, (some 0), none, .alloc 28 [.pointer none, .pointer none], []⟩]) (.seq (.ops [⟨0, (some 1), none, .call (.c (.func (.func 11) #[] #[])) [], []⟩, ⟨1, (some 2), none, .call (.c (.func (.func 12) #[] #[])) [], []⟩, ⟨2, (some 3), none, .bld [.pointer none, .pointer none] [(0, (1, .t 1)), (1, (1, .t 2))], []⟩, ⟨3, none, none, .stn 2 (.t 0) (.t 3), []⟩]) .ret)
attribute [irreducible] c_culletlaw04_both
theorem run_culletlaw04_both {args : List Value} {w : World} {K : Value → World → Prop} (hn : args.length ≤ 4) (h : WP Tryz.prog c_culletlaw04_both (endQ [.cn 0 2] K) (initT args) w) : CallV Tryz.prog 8 args w K :=
  call_of follows Tryz.func8 (by kernel_rfl) (by kernel_rfl) hn h
def c_culletlaw04_same : C := .seq (.ops [⟨0, (some 4), none, .mov (.c (.bool false)), []⟩]) (.seq (.seq (.ops [⟨0, (some 6), none, .mov (.t 0), []⟩, ⟨1, (some 7), none, .len (.t 6), []⟩, ⟨2, (some 8), none, .mov (.t 1), []⟩, ⟨3, (some 9), none, .len (.t 8), []⟩, ⟨4, (some 10), none, .bin .neq (.t 7) (.t 9), []⟩]) (.ite (.t 10) (.seq (.ops [⟨0, (some 4), none, .mov (.c (.bool false)), []⟩]) .ret) .skip)) (.seq (.seq (.ops [⟨0, (some 5), none, .mov (.c (.int .i64 0)), []⟩]) (.block 0 (.loop (.seq (.seq (.ops [⟨0, (some 11), none, .mov (.t 5), []⟩, ⟨1, (some 12), none, .mov (.t 0), []⟩, ⟨2, (some 13), none, .len (.t 12), []⟩, ⟨3, (some 14), none, .bin .lss (.t 11) (.t 13), []⟩]) (.ite (.t 14) .skip (.exit 0))) (.seq (.block 1 (.seq (.dops [⟨0, (some 17), none, .mov (.t 0), []⟩, ⟨1, (some 18), none, .mov (.t 5), []⟩, ⟨2, (some 19), none, .ixs 1 (.t 17) (.t 18), []⟩, ⟨3, (some 20), none, .ld (.t 19), []⟩, ⟨4, (some 21), none, .mov (.t 1), []⟩, ⟨5, (some 22), none, .mov (.t 5), []⟩, ⟨6, (some 23), none, .ixs 1 (.t 21) (.t 22), []⟩, ⟨7, (some 24), none, .ld (.t 23), []⟩, ⟨8, (some 25), none, .bin .neq (.t 20) (.t 24), []⟩]) (.ite (.t 25) (.seq (.ops [⟨0, (some 4), none, .mov (.c (.bool false)), []⟩]) .ret) .skip))) (.ops [⟨0, (some 15), none, .mov (.t 5), []⟩, ⟨1, (some 16), none, .bin .add (.t 15) (.c (.int .i64 1)), []⟩, ⟨2, (some 5), none, .mov (.t 16), []⟩])))))) (.seq (.ops [⟨0, (some 4), none, .mov (.c (.bool true)), []⟩]) .ret)))
attribute [irreducible] c_culletlaw04_same
theorem run_culletlaw04_same {args : List Value} {w : World} {K : Value → World → Prop} (hn : args.length ≤ 26) (h : WP Tryz.prog c_culletlaw04_same (endQ [.t 4] K) (initT args) w) : CallV Tryz.prog 14 args w K :=
  call_of follows Tryz.func14 (by kernel_rfl) (by kernel_rfl) hn h
def c_culletlaw04_cut : C := .seq (.ops [⟨0, (some 4), none, .mov (.c (.slice none 0 0)), []⟩]) (.seq (.seq (.ops [⟨0, (some 5), none, .mov (.t 0), []⟩]) (.ite (.t 5) (.seq (.ops [⟨0, (some 6), none, .mov (.t 1), []⟩, ⟨1, (some 7), none, .call (.c (.func (.func 27) #[] #[])) [.t 6], []⟩, ⟨2, (some 4), none, .mov (.t 7), []⟩]) .ret) .skip)) (.seq (.ops [⟨0, (some 8), none, .mov (.t 1), []⟩, ⟨1, (some 9), none, .call (.c (.func (.func 29) #[] #[])) [.t 8], []⟩, ⟨2, (some 10), none, .call (.c (.func (.func 30) #[] #[])) [.t 9], []⟩, ⟨3, (some 4), none, .mov (.t 10), []⟩]) .ret))
attribute [irreducible] c_culletlaw04_cut
theorem run_culletlaw04_cut {args : List Value} {w : World} {K : Value → World → Prop} (hn : args.length ≤ 11) (h : WP Tryz.prog c_culletlaw04_cut (endQ [.t 4] K) (initT args) w) : CallV Tryz.prog 16 args w K :=
  call_of follows Tryz.func16 (by kernel_rfl) (by kernel_rfl) hn h
def c_culletlaw04_twin : C := .seq (.ops [⟨0, (some 2), none, .mov (.c (.slice none 0 0)), []⟩]) (.seq (.ops [⟨0, (some 4), none, .mov (.t 0), []⟩, ⟨1, (some 5), none, .len (.t 4), []⟩, ⟨2, (some 6), none, .mks 32 2 [.int .u16 0] (.t 5) (.t 5), []⟩, ⟨3, (some 3), none, .mov (.t 6), []⟩]) (.seq (.ops [⟨0, (some 7), none, .mov (.t 3), []⟩, ⟨1, (some 8), none, .mov (.t 0), []⟩, ⟨2, (some 9), none, .cpy 1 (.t 7) (.t 8), []⟩]) (.seq (.ops [⟨0, (some 10), none, .mov (.t 3), []⟩, ⟨1, (some 2), none, .mov (.t 10), []⟩]) .ret)))
attribute [irreducible] c_culletlaw04_twin
theorem run_culletlaw04_twin {args : List Value} {w : World} {K : Value → World → Prop} (hn : args.length ≤ 11) (h : WP Tryz.prog c_culletlaw04_twin (endQ [.t 2] K) (initT args) w) : CallV Tryz.prog 27 args w K :=
  call_of follows Tryz.func27 (by kernel_rfl) (by kernel_rfl) hn h
def c_culletlaw04_low : C := .seq (.ops [⟨0, (some 2), none, .mov (.c (.slice none 0 0)), []⟩]) (.seq (.ops [⟨0, (some 5), none, .mov (.t 0), []⟩, ⟨1, (some 6), none, .len (.t 5), []⟩, ⟨2, (some 7), none, .mks 5 1 [.int .u8 0] (.t 6) (.t 6), []⟩, ⟨3, (some 3), none, .mov (.t 7), []⟩]) (.seq (.seq (.ops [⟨0, (some 4), none, .mov (.c (.int .i64 0)), []⟩]) (.block 0 (.loop (.seq (.seq (.ops [⟨0, (some 8), none, .mov (.t 4), []⟩, ⟨1, (some 9), none, .mov (.t 0), []⟩, ⟨2, (some 10), none, .len (.t 9), []⟩, ⟨3, (some 11), none, .bin .lss (.t 8) (.t 10), []⟩]) (.ite (.t 11) .skip (.exit 0))) (.seq (.block 1 (.ops [⟨0, (some 14), none, .mov (.t 3), []⟩, ⟨1, (some 15), none, .mov (.t 4), []⟩, ⟨2, (some 16), none, .mov (.t 0), []⟩, ⟨3, (some 17), none, .mov (.t 4), []⟩, ⟨4, (some 18), none, .ixs 1 (.t 16) (.t 17), []⟩, ⟨5, (some 19), none, .ld (.t 18), []⟩, ⟨6, (some 20), none, .cnv .u8 (.t 19), []⟩, ⟨7, (some 21), none, .ixs 1 (.t 14) (.t 15), []⟩, ⟨8, none, none, .st (.t 21) (.t 20), []⟩])) (.ops [⟨0, (some 12), none, .mov (.t 4), []⟩, ⟨1, (some 13), none, .bin .add (.t 12) (.c (.int .i64 1)), []⟩, ⟨2, (some 4), none, .mov (.t 13), []⟩])))))) (.seq (.ops [⟨0, (some 22), none, .mov (.t 3), []⟩, ⟨1, (some 2), none, .mov (.t 22), []⟩]) .ret)))
attribute [irreducible] c_culletlaw04_low
theorem run_culletlaw04_low {args : List Value} {w : World} {K : Value → World → Prop} (hn : args.length ≤ 23) (h : WP Tryz.prog c_culletlaw04_low (endQ [.t 2] K) (initT args) w) : CallV Tryz.prog 29 args w K :=
  call_of follows Tryz.func29 (by kernel_rfl) (by kernel_rfl) hn h
def c_culletlaw04_up : C := .seq (.ops [⟨0, (some 2), none, .mov (.c (.slice none 0 0)), []⟩]) (.seq (.ops [⟨0, (some 5), none, .mov (.t 0), []⟩, ⟨1, (some 6), none, .len (.t 5), []⟩, ⟨2, (some 7), none, .mks 32 2 [.int .u16 0] (.t 6) (.t 6), []⟩, ⟨3, (some 3), none, .mov (.t 7), []⟩]) (.seq (.seq (.ops [⟨0, (some 4), none, .mov (.c (.int .i64 0)), []⟩]) (.block 0 (.loop (.seq (.seq (.ops [⟨0, (some 8), none, .mov (.t 4), []⟩, ⟨1, (some 9), none, .mov (.t 0), []⟩, ⟨2, (some 10), none, .len (.t 9), []⟩, ⟨3, (some 11), none, .bin .lss (.t 8) (.t 10), []⟩]) (.ite (.t 11) .skip (.exit 0))) (.seq (.block 1 (.ops [⟨0, (some 14), none, .mov (.t 3), []⟩, ⟨1, (some 15), none, .mov (.t 4), []⟩, ⟨2, (some 16), none, .mov (.t 0), []⟩, ⟨3, (some 17), none, .mov (.t 4), []⟩, ⟨4, (some 18), none, .ixs 1 (.t 16) (.t 17), []⟩, ⟨5, (some 19), none, .ld (.t 18), []⟩, ⟨6, (some 20), none, .cnv .u16 (.t 19), []⟩, ⟨7, (some 21), none, .ixs 1 (.t 14) (.t 15), []⟩, ⟨8, none, none, .st (.t 21) (.t 20), []⟩])) (.ops [⟨0, (some 12), none, .mov (.t 4), []⟩, ⟨1, (some 13), none, .bin .add (.t 12) (.c (.int .i64 1)), []⟩, ⟨2, (some 4), none, .mov (.t 13), []⟩])))))) (.seq (.ops [⟨0, (some 22), none, .mov (.t 3), []⟩, ⟨1, (some 2), none, .mov (.t 22), []⟩]) .ret)))
attribute [irreducible] c_culletlaw04_up
theorem run_culletlaw04_up {args : List Value} {w : World} {K : Value → World → Prop} (hn : args.length ≤ 23) (h : WP Tryz.prog c_culletlaw04_up (endQ [.t 2] K) (initT args) w) : CallV Tryz.prog 30 args w K :=
  call_of follows Tryz.func30 (by kernel_rfl) (by kernel_rfl) hn h
end Go.Proofs.YtcdagkcchfibjaaGreat.Fw
namespace Go.Proofs.YtcdagkcchfibjaaGreat.Fw
open Go Go.Fw
def em16 (x : El 16) : El 16 := x
def lo16 (x : El 16) : El 16 := x
def em8 (x : El 8) : El 16 := ⟨x.v.setWidth 16⟩
def lo8 (x : El 16) : El 8 := ⟨x.v.setWidth 8⟩
theorem em8_nat (x : El 8) : (em8 x).v.toNat = x.v.toNat := by
  have := x.v.isLt
  show (x.v.setWidth 16).toNat = _
  rw [BitVec.toNat_setWidth]; omega
theorem lo8_nat (x : El 16) : (lo8 x).v.toNat = x.v.toNat % 256 := by
  show (x.v.setWidth 8).toNat = _
  rw [BitVec.toNat_setWidth]
theorem em16_nat (x : El 16) : (em16 x).v.toNat = x.v.toNat := rfl
theorem lo8_em8 (x : El 8) : lo8 (em8 x) = x := by
  apply El.ext; apply BitVec.eq_of_toNat_eq
  rw [lo8_nat, em8_nat]; have := x.v.isLt; omega
theorem em8_inj {x y : El 8} (h : em8 x = em8 y) : x = y := by rw [← lo8_em8 x, h, lo8_em8]
theorem em16_inj {x y : El 16} (h : em16 x = em16 y) : x = y := h
theorem em16_map (l : List (El 16)) : l.map em16 = l := by
  show l.map (fun x => x) = l
  exact List.map_id' l
theorem lo16_map (l : List (El 16)) : l.map lo16 = l := em16_map l
theorem lo8_map_em8 (l : List (El 8)) : (l.map em8).map lo8 = l := by rw [List.map_map]; simp [Function.comp_def, lo8_em8]
theorem lo16_map_em16 (l : List (El 16)) : (l.map em16).map lo16 = l := by rw [em16_map, lo16_map]
theorem culletlaw04_twin_spec (w : World) (s : Value) (l : List (El 16)) (h : Sl w s l) (hb : l.length ≤ 70368744175616) :
    CallV Tryz.prog 27 [s] w fun v w' => Ow w.heap.size w' v l ∧ RowKit.Below w.heap.size w w' := by
  refine run_culletlaw04_twin (by simp) ?_
  simp only [c_culletlaw04_twin, WS, List.getElem_cons_zero, List.getElem_cons_succ, Option.isNone_some, Option.isNone_none, List.getD_cons_zero, List.getD_cons_succ, I.at, atL, atO, atP, evp, evs, retV, ↓reduceIte, Nat.reduceEqDiff, reduceCtorEq, h.Xlen]
  refine X_mks (x := (0 : El 16)) ?_ ?_ fun p w1 ho hB => ?_
  · simp only [maxBytes]; omega
  · omega
  simp only [WS, List.getElem_cons_zero, List.getElem_cons_succ, Option.isNone_some, Option.isNone_none, List.getD_cons_zero, List.getD_cons_succ, I.at, atL, atO, atP, evp, evs, retV, ↓reduceIte, Nat.reduceEqDiff, reduceCtorEq]
  refine Ow.Xcpy ho (h.up hB) fun w2 ho2 hg => ?_
  simp only [WS, List.getElem_cons_zero, List.getElem_cons_succ, Option.isNone_some, Option.isNone_none, List.getD_cons_zero, List.getD_cons_succ, I.at, atL, atO, atP, evp, evs, retV, ↓reduceIte, Nat.reduceEqDiff, reduceCtorEq]
  have e : l.take (List.replicate l.length (0 : El 16)).length ++ (List.replicate l.length (0 : El 16)).drop l.length = l := by simp
  rw [e] at ho2
  exact ⟨ho2, hB.grown hg hB.size fun b hb => (ho.blk b hb).1⟩
theorem culletlaw04_low_spec (w : World) (s : Value) (l : List (El 16)) (h : Sl w s l) (hb : l.length ≤ 70368744175616) :
    CallV Tryz.prog 29 [s] w fun v w' => Ow w.heap.size w' v (l.map lo8) ∧ RowKit.Below w.heap.size w w' := by
  refine run_culletlaw04_low (by simp) ?_
  simp only [c_culletlaw04_low, WS, List.getElem_cons_zero, List.getElem_cons_succ, Option.isNone_some, Option.isNone_none, List.getD_cons_zero, List.getD_cons_succ, I.at, atL, atO, atP, evp, evs, retV, ↓reduceIte, Nat.reduceEqDiff, reduceCtorEq, h.Xlen]
  refine X_mks (x := (0 : El 8)) ?_ ?_ fun p w1 ho hB => ?_
  · simp only [maxBytes]; omega
  · omega
  simp only [WS, List.getElem_cons_zero, List.getElem_cons_succ, Option.isNone_some, Option.isNone_none, List.getD_cons_zero, List.getD_cons_succ, I.at, atL, atO, atP, evp, evs, retV, ↓reduceIte, Nat.reduceEqDiff, reduceCtorEq]
  refine loop_of (fun t w' => t 0 = s ∧ t 3 = p ∧ RowKit.Below w.heap.size w w' ∧ ∃ (i : Nat) (ls : List (El 8)), t 4 = .int .i64 (i : Int) ∧ i ≤ l.length ∧ Ow w.heap.size w' p ls ∧ ls.length = l.length ∧ ls.take i = (l.take i).map lo8)
    (fun t _ => l.length - (toI (t 4)).toNat) ⟨rfl, rfl, hB, 0, _, rfl, by omega, ho, by simp, by simp⟩ ?_
  clear ho hB
  rintro t w' ⟨t0, t3, hB, i, ls, t4, hi, ho, hll, hc⟩
  by_cases hlt : i < l.length
  · have hos := h.up hB
    have wc : IntKind.u8.wrap (l[i].v.toNat : Int) = ((lo8 l[i]).v.toNat : Int) := by rw [wrap_u8m, lo8_nat]
    simp only [WS, List.getElem_cons_zero, List.getElem_cons_succ, Option.isNone_some, Option.isNone_none, List.getD_cons_zero, List.getD_cons_succ, I.at, atL, atO, atP, evp, evs, retV, ↓reduceIte, Nat.reduceEqDiff, reduceCtorEq, t0, t3, t4, hos.Xlen, show decide ((i : Int) < (l.length : Int)) = true from decide_eq_true (by omega), hos.Xix hlt, hos.Xld hlt, cell_e16, wc, ho.sl.Xix (show i < ls.length by omega)]
    refine Ow.Xst ho (show i < ls.length by omega) (lo8 l[i]) fun w3 ho3 hg3 => ?_
    simp only [WS, List.getElem_cons_zero, List.getElem_cons_succ, Option.isNone_some, Option.isNone_none, List.getD_cons_zero, List.getD_cons_succ, I.at, atL, atO, atP, evp, evs, retV, ↓reduceIte, Nat.reduceEqDiff, reduceCtorEq, t0, t3, t4, wrap_id (show -9223372036854775808 ≤ (i : Int) + 1 by omega) (show (i : Int) + 1 < 9223372036854775808 by omega), toI_int]
    refine ⟨⟨hB.grown hg3 hB.size fun b hb => (ho.blk b hb).1, i + 1, _, rfl, by omega, ho3, by simp [hll], ?_⟩, by omega⟩
    rw [List.take_add_one, List.getElem?_set_self (by omega), List.take_set_of_le (Nat.le_refl _), hc, List.take_add_one, List.getElem?_eq_getElem hlt]
    simp only [Option.toList_some, List.map_append, List.map_cons, List.map_nil]
  · simp only [WS, List.getElem_cons_zero, List.getElem_cons_succ, Option.isNone_some, Option.isNone_none, List.getD_cons_zero, List.getD_cons_succ, I.at, atL, atO, atP, evp, evs, retV, ↓reduceIte, Nat.reduceEqDiff, reduceCtorEq, t0, t3, t4, (h.up hB).Xlen, show decide ((i : Int) < (l.length : Int)) = false from decide_eq_false (by omega)]
    rw [List.take_of_length_le (by omega), List.take_of_length_le (by omega)] at hc
    rw [hc] at ho
    exact ⟨ho, hB⟩
theorem culletlaw04_up_spec (w : World) (s : Value) (l : List (El 8)) (h : Sl w s l) (hb : l.length ≤ 70368744175616) :
    CallV Tryz.prog 30 [s] w fun v w' => Ow w.heap.size w' v (l.map em8) ∧ RowKit.Below w.heap.size w w' := by
  refine run_culletlaw04_up (by simp) ?_
  simp only [c_culletlaw04_up, WS, List.getElem_cons_zero, List.getElem_cons_succ, Option.isNone_some, Option.isNone_none, List.getD_cons_zero, List.getD_cons_succ, I.at, atL, atO, atP, evp, evs, retV, ↓reduceIte, Nat.reduceEqDiff, reduceCtorEq, h.Xlen]
  refine X_mks (x := (0 : El 16)) ?_ ?_ fun p w1 ho hB => ?_
  · simp only [maxBytes]; omega
  · omega
  simp only [WS, List.getElem_cons_zero, List.getElem_cons_succ, Option.isNone_some, Option.isNone_none, List.getD_cons_zero, List.getD_cons_succ, I.at, atL, atO, atP, evp, evs, retV, ↓reduceIte, Nat.reduceEqDiff, reduceCtorEq]
  refine loop_of (fun t w' => t 0 = s ∧ t 3 = p ∧ RowKit.Below w.heap.size w w' ∧ ∃ (i : Nat) (ls : List (El 16)), t 4 = .int .i64 (i : Int) ∧ i ≤ l.length ∧ Ow w.heap.size w' p ls ∧ ls.length = l.length ∧ ls.take i = (l.take i).map em8)
    (fun t _ => l.length - (toI (t 4)).toNat) ⟨rfl, rfl, hB, 0, _, rfl, by omega, ho, by simp, by simp⟩ ?_
  clear ho hB
  rintro t w' ⟨t0, t3, hB, i, ls, t4, hi, ho, hll, hc⟩
  by_cases hlt : i < l.length
  · have hos := h.up hB
    have wc : IntKind.u16.wrap (l[i].v.toNat : Int) = ((em8 l[i]).v.toNat : Int) := by
      have := l[i].v.isLt
      rw [wrap_u16 _ (by omega), em8_nat]
    simp only [WS, List.getElem_cons_zero, List.getElem_cons_succ, Option.isNone_some, Option.isNone_none, List.getD_cons_zero, List.getD_cons_succ, I.at, atL, atO, atP, evp, evs, retV, ↓reduceIte, Nat.reduceEqDiff, reduceCtorEq, t0, t3, t4, hos.Xlen, show decide ((i : Int) < (l.length : Int)) = true from decide_eq_true (by omega), hos.Xix hlt, hos.Xld hlt, cell_e8, wc, ho.sl.Xix (show i < ls.length by omega)]
    refine Ow.Xst ho (show i < ls.length by omega) (em8 l[i]) fun w3 ho3 hg3 => ?_
    simp only [WS, List.getElem_cons_zero, List.getElem_cons_succ, Option.isNone_some, Option.isNone_none, List.getD_cons_zero, List.getD_cons_succ, I.at, atL, atO, atP, evp, evs, retV, ↓reduceIte, Nat.reduceEqDiff, reduceCtorEq, t0, t3, t4, wrap_id (show -9223372036854775808 ≤ (i : Int) + 1 by omega) (show (i : Int) + 1 < 9223372036854775808 by omega), toI_int]
    refine ⟨⟨hB.grown hg3 hB.size fun b hb => (ho.blk b hb).1, i + 1, _, rfl, by omega, ho3, by simp [hll], ?_⟩, by omega⟩
    rw [List.take_add_one, List.getElem?_set_self (by omega), List.take_set_of_le (Nat.le_refl _), hc, List.take_add_one, List.getElem?_eq_getElem hlt]
    simp only [Option.toList_some, List.map_append, List.map_cons, List.map_nil]
  · simp only [WS, List.getElem_cons_zero, List.getElem_cons_succ, Option.isNone_some, Option.isNone_none, List.getD_cons_zero, List.getD_cons_succ, I.at, atL, atO, atP, evp, evs, retV, ↓reduceIte, Nat.reduceEqDiff, reduceCtorEq, t0, t3, t4, (h.up hB).Xlen, show decide ((i : Int) < (l.length : Int)) = false from decide_eq_false (by omega)]
    rw [List.take_of_length_le (by omega), List.take_of_length_le (by omega)] at hc
    rw [hc] at ho
    exact ⟨ho, hB⟩
/-- As the field has them. -/
theorem culletlaw04_cut_w_spec (w : World) (s : Value) (l : List (El 16)) (h : Sl w s l) (hb : l.length ≤ 70368744175616) :
    CallV Tryz.prog 16 [.bool true, s] w fun v w' => Ow w.heap.size w' v ((l.map lo16).map em16) ∧ RowKit.Below w.heap.size w w' := by
  refine run_culletlaw04_cut (by simp) ?_
  simp only [c_culletlaw04_cut, WS, List.getElem_cons_zero, List.getElem_cons_succ, Option.isNone_some, Option.isNone_none, List.getD_cons_zero, List.getD_cons_succ, I.at, atL, atO, atP, evp, evs, retV, ↓reduceIte, Nat.reduceEqDiff, reduceCtorEq]
  refine X_call0 ((culletlaw04_twin_spec w s l h hb).mono ?_)
  rintro v w' ⟨h1, h2⟩
  simp only [WS, List.getElem_cons_zero, List.getElem_cons_succ, Option.isNone_some, Option.isNone_none, List.getD_cons_zero, List.getD_cons_succ, I.at, atL, atO, atP, evp, evs, retV, ↓reduceIte, Nat.reduceEqDiff, reduceCtorEq, lo16_map, em16_map]
  exact ⟨h1, h2⟩
theorem culletlaw04_cut_b_spec (w : World) (s : Value) (l : List (El 16)) (h : Sl w s l) (hb : l.length ≤ 70368744175616) :
    CallV Tryz.prog 16 [.bool false, s] w fun v w' => Ow w.heap.size w' v ((l.map lo8).map em8) ∧ RowKit.Below w.heap.size w w' := by
  refine run_culletlaw04_cut (by simp) ?_
  simp only [c_culletlaw04_cut, WS, List.getElem_cons_zero, List.getElem_cons_succ, Option.isNone_some, Option.isNone_none, List.getD_cons_zero, List.getD_cons_succ, I.at, atL, atO, atP, evp, evs, retV, ↓reduceIte, Nat.reduceEqDiff, reduceCtorEq]
  refine X_call0 ((culletlaw04_low_spec w s l h hb).mono ?_)
  rintro v w' ⟨h1, h2⟩
  simp only [WS, List.getElem_cons_zero, List.getElem_cons_succ, Option.isNone_some, Option.isNone_none, List.getD_cons_zero, List.getD_cons_succ, I.at, atL, atO, atP, evp, evs, retV, ↓reduceIte, Nat.reduceEqDiff, reduceCtorEq]
  refine X_call0 ((culletlaw04_up_spec w' v _ h1.sl (by rw [List.length_map]; exact hb)).mono ?_)
  rintro v w2 ⟨h3, h4⟩
  simp only [WS, List.getElem_cons_zero, List.getElem_cons_succ, Option.isNone_some, Option.isNone_none, List.getD_cons_zero, List.getD_cons_succ, I.at, atL, atO, atP, evp, evs, retV, ↓reduceIte, Nat.reduceEqDiff, reduceCtorEq]
  exact ⟨h3.mono h2.size, h2.trans (h4.mono h2.size)⟩
theorem culletlaw04_same_spec (w : World) (s1 s2 : Value) (l1 l2 : List (El 16)) (h1 : Sl w s1 l1) (h2 : Sl w s2 l2) (hb : l1.length ≤ 140737488355328) (hb2 : l2.length ≤ 140737488355328) :
    CallV Tryz.prog 14 [s1, s2] w fun v w' => v = .bool (decide (l1 = l2)) ∧ Like w w' := by
  refine run_culletlaw04_same (by simp) ?_
  simp only [c_culletlaw04_same, WS, List.getElem_cons_zero, List.getElem_cons_succ, Option.isNone_some, Option.isNone_none, List.getD_cons_zero, List.getD_cons_succ, I.at, atL, atO, atP, evp, evs, retV, ↓reduceIte, Nat.reduceEqDiff, reduceCtorEq, h1.Xlen, h2.Xlen]
  by_cases hl : l1.length = l2.length
  · simp only [WS, List.getElem_cons_zero, List.getElem_cons_succ, Option.isNone_some, Option.isNone_none, List.getD_cons_zero, List.getD_cons_succ, I.at, atL, atO, atP, evp, evs, retV, ↓reduceIte, Nat.reduceEqDiff, reduceCtorEq, show decide ((l1.length : Int) = (l2.length : Int)) = true from decide_eq_true (by omega)]
    refine loop_of (fun t w' => Like w w' ∧ t 0 = s1 ∧ t 1 = s2 ∧ ∃ i : Nat, t 5 = .int .i64 (i : Int) ∧ i ≤ l1.length ∧ l1.take i = l2.take i) (fun t _ => l1.length - (toI (t 5)).toNat) ⟨Like.refl w, rfl, rfl, 0, rfl, by omega, by simp⟩ ?_
    rintro t w' ⟨hk, t0, t1, i, t5, hi, he⟩
    have g1 := hk.sl h1
    have g2 := hk.sl h2
    by_cases hlt : i < l1.length
    · have hlt2 : i < l2.length := by omega
      simp only [WS, List.getElem_cons_zero, List.getElem_cons_succ, Option.isNone_some, Option.isNone_none, List.getD_cons_zero, List.getD_cons_succ, I.at, atL, atO, atP, evp, evs, retV, ↓reduceIte, Nat.reduceEqDiff, reduceCtorEq, t0, t1, t5, g1.Xlen, show decide ((i : Int) < (l1.length : Int)) = true from decide_eq_true (by omega)]
      refine WP_dops ?_
      simp only [ES, List.mem_cons, List.not_mem_nil, implies_true, forall_const, WS, List.getElem_cons_zero, List.getElem_cons_succ, Option.isNone_some, Option.isNone_none, List.getD_cons_zero, List.getD_cons_succ, I.at, atL, atO, atP, evp, evs, retV, ↓reduceIte, Nat.reduceEqDiff, reduceCtorEq, t0, t1, t5, g1.drew.Eix hlt, g1.drew.Eld hlt, g2.drew.Eix hlt2, g2.drew.Eld hlt2, cell_e16, el_eq]
      by_cases hx : l1[i] = l2[i]
      · simp only [WS, List.getElem_cons_zero, List.getElem_cons_succ, Option.isNone_some, Option.isNone_none, List.getD_cons_zero, List.getD_cons_succ, I.at, atL, atO, atP, evp, evs, retV, ↓reduceIte, Nat.reduceEqDiff, reduceCtorEq, t0, t1, t5, decide_eq_true hx, wrap_id (show -9223372036854775808 ≤ (i : Int) + 1 by omega) (show (i : Int) + 1 < 9223372036854775808 by omega), toI_int]
        refine ⟨⟨hk.trans (Like.drew _), i + 1, rfl, by omega, ?_⟩, by omega⟩
        rw [List.take_add_one, List.take_add_one, he, List.getElem?_eq_getElem hlt, List.getElem?_eq_getElem hlt2, hx]
      · have : ¬ l1 = l2 := fun e => hx (by subst e; rfl)
        simp only [WS, List.getElem_cons_zero, List.getElem_cons_succ, Option.isNone_some, Option.isNone_none, List.getD_cons_zero, List.getD_cons_succ, I.at, atL, atO, atP, evp, evs, retV, ↓reduceIte, Nat.reduceEqDiff, reduceCtorEq, t0, t1, t5, decide_eq_false hx, decide_eq_false this]
        exact hk.trans (Like.drew _)
    · rw [List.take_of_length_le (by omega), List.take_of_length_le (by omega)] at he
      simp only [WS, List.getElem_cons_zero, List.getElem_cons_succ, Option.isNone_some, Option.isNone_none, List.getD_cons_zero, List.getD_cons_succ, I.at, atL, atO, atP, evp, evs, retV, ↓reduceIte, Nat.reduceEqDiff, reduceCtorEq, t0, t1, t5, g1.Xlen, show decide ((i : Int) < (l1.length : Int)) = false from decide_eq_false (by omega), decide_eq_true he]
      exact hk
  · have : ¬ l1 = l2 := fun e => hl (by rw [e])
    simp only [WS, List.getElem_cons_zero, List.getElem_cons_succ, Option.isNone_some, Option.isNone_none, List.getD_cons_zero, List.getD_cons_succ, I.at, atL, atO, atP, evp, evs, retV, ↓reduceIte, Nat.reduceEqDiff, reduceCtorEq, show decide ((l1.length : Int) = (l2.length : Int)) = false from decide_eq_false (by omega), decide_eq_false this]
    exact Like.refl w
theorem culletlaw04_both_spec (w : World) : CallV Tryz.prog 8 [] w fun v w' => ∃ rb rw, v = .agg #[rb, rw] ∧ Ring_b w' rb ∧ Ring_w w' rw ∧ RowKit.Below w.heap.size w w' := by
  refine run_culletlaw04_both (by simp) ?_
  simp only [c_culletlaw04_both, WS, List.getElem_cons_zero, List.getElem_cons_succ, Option.isNone_some, Option.isNone_none, List.getD_cons_zero, List.getD_cons_succ, I.at, atL, atO, atP, evp, evs, retV, ↓reduceIte, Nat.reduceEqDiff, reduceCtorEq]
  refine X_alloc fun b w1 hr hb hB1 => ?_
  simp only [WS, List.getElem_cons_zero, List.getElem_cons_succ, Option.isNone_some, Option.isNone_none, List.getD_cons_zero, List.getD_cons_succ, I.at, atL, atO, atP, evp, evs, retV, ↓reduceIte, Nat.reduceEqDiff, reduceCtorEq]
  refine X_call0 ((polys_Over8_spec w1).mono ?_)
  rintro rb w2 ⟨h8, hB2, hs8⟩
  simp only [WS, List.getElem_cons_zero, List.getElem_cons_succ, Option.isNone_some, Option.isNone_none, List.getD_cons_zero, List.getD_cons_succ, I.at, atL, atO, atP, evp, evs, retV, ↓reduceIte, Nat.reduceEqDiff, reduceCtorEq]
  refine X_call0 ((polys_Over16_spec w2).mono ?_)
  rintro rw w3 ⟨h16, hB3, hs16⟩
  have hf : fillL [.pointer none, .pointer none] [(0, 1, rb), (1, 1, rw)] = some [rb, rw] := by
    obtain ⟨_, _, _, rfl, _⟩ := h8
    obtain ⟨_, _, _, rfl, _⟩ := h16
    rfl
  have s8 : scal rb = true := by obtain ⟨_, _, _, rfl, _⟩ := h8; rfl
  have s16 : scal rw = true := by obtain ⟨_, _, _, rfl, _⟩ := h16; rfl
  simp only [WS, List.getElem_cons_zero, List.getElem_cons_succ, Option.isNone_some, Option.isNone_none, List.getD_cons_zero, List.getD_cons_succ, I.at, atL, atO, atP, evp, evs, retV, ↓reduceIte, Nat.reduceEqDiff, reduceCtorEq, X_bld, hf]
  have hr3 := (hr.up hB2).up hB3
  refine Row.Xstn (vs := [rb, rw]) hr3 rfl (by simp [s8, s16]) (by simp) fun w4 hr4 hg4 => ?_
  simp only [WS, List.getElem_cons_zero, List.getElem_cons_succ, Option.isNone_some, Option.isNone_none, List.getD_cons_zero, List.getD_cons_succ, I.at, atL, atO, atP, evp, evs, retV, ↓reduceIte, Nat.reduceEqDiff, reduceCtorEq]
  rw [hr4.ldn (n := 2) rfl]
  have hB13 : RowKit.Below w1.heap.size w1 w3 := hB2.trans (hB3.mono hB2.size)
  have hB : RowKit.Below w.heap.size w w3 := hB1.trans (hB13.mono hB1.size)
  have hbl : b < w1.heap.size := row_lt hr
  have hb2 : b < w2.heap.size := Nat.lt_of_lt_of_le hbl hB2.size
  refine ⟨rb, rw, rfl, hs8 w4 fun k h1 h2 => ?_, hs16 w4 fun k h1 h2 => ?_, hB.grown hg4 hB.size fun k hk => by cases hk; exact hb⟩
  · exact (hg4.block k (Nat.lt_of_lt_of_le h2 hB3.size) (fun e => by cases e; omega)).trans (hB3.block k h2)
  · exact hg4.block k h2 (fun e => by cases e; omega)
end Go.Proofs.YtcdagkcchfibjaaGreat.Fw

set_option linter.unusedVariables false
set_option linter.unusedSimpArgs false
set_option maxRecDepth 100000
set_option maxHeartbeats 1000000
namespace Go.Proofs.YtcdagkcchfibjaaGreat.Fw
open Go Go.Fw Go.Proofs
attribute [local irreducible] stepI
def c_culletlaw04_Rings_mul : C := .seq (.ops [⟨0, (some 4), none, .box 28 (.t 0), []⟩, ⟨1, (some 8), none, .mov (.c (.slice none 0 0)), []⟩, ⟨2, (some 9), none, .mov (.c (.int .i64 0)), []⟩]) (.seq (.seq (.ops [⟨0, (some 14), none, .mov (.t 1), []⟩]) (.ite (.t 14) (.seq (.dops [⟨0, (some 16), none, .fad 1 (.t 4), []⟩, ⟨1, (some 17), none, .ld (.t 16), []⟩, ⟨2, (some 18), none, .mov (.t 2), []⟩, ⟨3, (some 19), none, .call (.c (.func (.func 27) #[] #[])) [.t 18], [1]⟩, ⟨4, (some 20), none, .mov (.t 3), []⟩, ⟨5, (some 21), none, .call (.c (.func (.func 27) #[] #[])) [.t 20], [1]⟩, ⟨6, (some 22), none, .call (.c (.func (.func 26) #[] #[])) [.t 17, .t 19, .t 21], []⟩, ⟨7, (some 15), none, .mov (.t 22), []⟩, ⟨8, (some 23), none, .ext (.t 15) 0, []⟩, ⟨9, (some 24), none, .ext (.t 15) 1, []⟩, ⟨10, (some 10), none, .mov (.t 23), []⟩, ⟨11, (some 11), none, .mov (.t 24), []⟩]) (.seq (.ops [⟨0, (some 25), none, .mov (.t 10), []⟩, ⟨1, (some 26), none, .mov (.t 11), []⟩, ⟨2, (some 8), none, .mov (.t 25), []⟩, ⟨3, (some 9), none, .mov (.t 26), []⟩]) .ret)) .skip)) (.seq (.dops [⟨0, (some 28), none, .fad 0 (.t 4), []⟩, ⟨1, (some 29), none, .ld (.t 28), []⟩, ⟨2, (some 30), none, .mov (.t 2), []⟩, ⟨3, (some 31), none, .call (.c (.func (.func 29) #[] #[])) [.t 30], [1]⟩, ⟨4, (some 32), none, .mov (.t 3), []⟩, ⟨5, (some 33), none, .call (.c (.func (.func 29) #[] #[])) [.t 32], [1]⟩, ⟨6, (some 34), none, .call (.c (.func (.func 28) #[] #[])) [.t 29, .t 31, .t 33], []⟩, ⟨7, (some 27), none, .mov (.t 34), []⟩, ⟨8, (some 35), none, .ext (.t 27) 0, []⟩, ⟨9, (some 36), none, .ext (.t 27) 1, []⟩, ⟨10, (some 12), none, .mov (.t 35), []⟩, ⟨11, (some 13), none, .mov (.t 36), []⟩]) (.seq (.ops [⟨0, (some 37), none, .mov (.t 12), []⟩, ⟨1, (some 38), none, .call (.c (.func (.func 30) #[] #[])) [.t 37], []⟩, ⟨2, (some 39), none, .mov (.t 13), []⟩, ⟨3, (some 8), none, .mov (.t 38), []⟩, ⟨4, (some 9), none, .mov (.t 39), []⟩]) .ret)))
attribute [irreducible] c_culletlaw04_Rings_mul
theorem run_culletlaw04_Rings_mul {args : List Value} {w : World} {K : Value → World → Prop} (hn : args.length ≤ 40) (h : WP Tryz.prog c_culletlaw04_Rings_mul (endQ [.t 8, .t 9] K) (initT args) w) : CallV Tryz.prog 13 args w K :=
  call_of follows Tryz.func13 (by kernel_rfl) (by kernel_rfl) hn h
def c_culletlaw04_Rings_eval : C := .seq (.ops [⟨0, (some 4), none, .box 28 (.t 0), []⟩, ⟨1, (some 8), none, .mov (.c (.int .u16 0)), []⟩]) (.seq (.seq (.ops [⟨0, (some 9), none, .mov (.t 1), []⟩]) (.ite (.t 9) (.seq (.dops [⟨0, (some 10), none, .fad 1 (.t 4), []⟩, ⟨1, (some 11), none, .ld (.t 10), []⟩, ⟨2, (some 12), none, .mov (.t 2), []⟩, ⟨3, (some 13), none, .call (.c (.func (.func 27) #[] #[])) [.t 12], [1]⟩, ⟨4, (some 14), none, .mov (.t 3), []⟩, ⟨5, (some 15), none, .call (.c (.func (.func 31) #[] #[])) [.t 11, .t 13, .t 14], []⟩, ⟨6, (some 8), none, .mov (.t 15), []⟩]) .ret) .skip)) (.seq (.dops [⟨0, (some 16), none, .fad 0 (.t 4), []⟩, ⟨1, (some 17), none, .ld (.t 16), []⟩, ⟨2, (some 18), none, .mov (.t 2), []⟩, ⟨3, (some 19), none, .call (.c (.func (.func 29) #[] #[])) [.t 18], [1]⟩, ⟨4, (some 20), none, .mov (.t 3), []⟩, ⟨5, (some 21), none, .cnv .u8 (.t 20), []⟩, ⟨6, (some 22), none, .call (.c (.func (.func 32) #[] #[])) [.t 17, .t 19, .t 21], []⟩, ⟨7, (some 23), none, .cnv .u16 (.t 22), []⟩, ⟨8, (some 8), none, .mov (.t 23), []⟩]) .ret))
attribute [irreducible] c_culletlaw04_Rings_eval
theorem run_culletlaw04_Rings_eval {args : List Value} {w : World} {K : Value → World → Prop} (hn : args.length ≤ 24) (h : WP Tryz.prog c_culletlaw04_Rings_eval (endQ [.t 8] K) (initT args) w) : CallV Tryz.prog 15 args w K :=
  call_of follows Tryz.func15 (by kernel_rfl) (by kernel_rfl) hn h
def c_culletlaw04_Rings_vanishing : C := .seq (.ops [⟨0, (some 3), none, .box 28 (.t 0), []⟩, ⟨1, (some 6), none, .mov (.c (.slice none 0 0)), []⟩, ⟨2, (some 7), none, .mov (.c (.int .i64 0)), []⟩]) (.seq (.seq (.ops [⟨0, (some 12), none, .mov (.t 1), []⟩]) (.ite (.t 12) (.seq (.dops [⟨0, (some 14), none, .fad 1 (.t 3), []⟩, ⟨1, (some 15), none, .ld (.t 14), []⟩, ⟨2, (some 16), none, .mov (.t 2), []⟩, ⟨3, (some 17), none, .call (.c (.func (.func 27) #[] #[])) [.t 16], [1]⟩, ⟨4, (some 18), none, .call (.c (.func (.func 77) #[] #[])) [.t 15, .t 17], []⟩, ⟨5, (some 13), none, .mov (.t 18), []⟩, ⟨6, (some 19), none, .ext (.t 13) 0, []⟩, ⟨7, (some 20), none, .ext (.t 13) 1, []⟩, ⟨8, (some 8), none, .mov (.t 19), []⟩, ⟨9, (some 9), none, .mov (.t 20), []⟩]) (.seq (.ops [⟨0, (some 21), none, .mov (.t 8), []⟩, ⟨1, (some 22), none, .mov (.t 9), []⟩, ⟨2, (some 6), none, .mov (.t 21), []⟩, ⟨3, (some 7), none, .mov (.t 22), []⟩]) .ret)) .skip)) (.seq (.dops [⟨0, (some 24), none, .fad 0 (.t 3), []⟩, ⟨1, (some 25), none, .ld (.t 24), []⟩, ⟨2, (some 26), none, .mov (.t 2), []⟩, ⟨3, (some 27), none, .call (.c (.func (.func 29) #[] #[])) [.t 26], [1]⟩, ⟨4, (some 28), none, .call (.c (.func (.func 78) #[] #[])) [.t 25, .t 27], []⟩, ⟨5, (some 23), none, .mov (.t 28), []⟩, ⟨6, (some 29), none, .ext (.t 23) 0, []⟩, ⟨7, (some 30), none, .ext (.t 23) 1, []⟩, ⟨8, (some 10), none, .mov (.t 29), []⟩, ⟨9, (some 11), none, .mov (.t 30), []⟩]) (.seq (.ops [⟨0, (some 31), none, .mov (.t 10), []⟩, ⟨1, (some 32), none, .call (.c (.func (.func 30) #[] #[])) [.t 31], []⟩, ⟨2, (some 33), none, .mov (.t 11), []⟩, ⟨3, (some 6), none, .mov (.t 32), []⟩, ⟨4, (some 7), none, .mov (.t 33), []⟩]) .ret)))
attribute [irreducible] c_culletlaw04_Rings_vanishing
theorem run_culletlaw04_Rings_vanishing {args : List Value} {w : World} {K : Value → World → Prop} (hn : args.length ≤ 34) (h : WP Tryz.prog c_culletlaw04_Rings_vanishing (endQ [.t 6, .t 7] K) (initT args) w) : CallV Tryz.prog 48 args w K :=
  call_of follows Tryz.func48 (by kernel_rfl) (by kernel_rfl) hn h
end Go.Proofs.YtcdagkcchfibjaaGreat.Fw
namespace Go.Proofs.YtcdagkcchfibjaaGreat.Fw
open Go Go.Fw
theorem culletlaw04_Rings_mul_w_spec (w : World) (rb rw s1 s2 : Value) (L1 L2 : List (El 16)) (hb : Ring_b w rb) (hw : Ring_w w rw) (h1 : Sl w s1 L1) (h2 : Sl w s2 L2) (b1 : L1.length ≤ 70368744175616) (b2 : L2.length ≤ 70368744175616) :
    CallV Tryz.prog 13 [.agg #[rb, rw], .bool true, s1, s2] w fun v w' => RowKit.Below w.heap.size w w' ∧ ((L1.length ≤ 1024 ∧ L2.length ≤ 1024 ∧ ∃ s m, v = .tuple #[s, .int .i64 0] ∧ Ow w.heap.size w' s (m.map em16) ∧ tr m = m ∧ co m = co (L1.map lo16) * co (L2.map lo16) ∧ m.length ≤ (L1.map lo16).length + (L2.map lo16).length) ∨ (¬ (L1.length ≤ 1024 ∧ L2.length ≤ 1024) ∧ ∃ s, v = .tuple #[s, .int .i64 5] ∧ Ow w.heap.size w' s ([] : List (El 16)))) := by
  refine run_culletlaw04_Rings_mul (by simp) ?_
  simp only [c_culletlaw04_Rings_mul, WS, List.getElem_cons_zero, List.getElem_cons_succ, Option.isNone_some, Option.isNone_none, List.getD_cons_zero, List.getD_cons_succ, I.at, atL, atO, atP, evp, evs, retV, ↓reduceIte, Nat.reduceEqDiff, reduceCtorEq]
  refine X_box fun b w1 hr hlb hB1 => ?_
  have hr : Row w1 b [rb, rw] := hr
  simp only [WS, List.getElem_cons_zero, List.getElem_cons_succ, Option.isNone_some, Option.isNone_none, List.getD_cons_zero, List.getD_cons_succ, I.at, atL, atO, atP, evp, evs, retV, ↓reduceIte, Nat.reduceEqDiff, reduceCtorEq]
  refine WP_dops ?_
  have hd0 := hr.drew
  have B0 : RowKit.Below w.heap.size w w1.drew := hB1.trans ((bel_drew w1).mono hB1.size)
  simp only [ES, List.mem_cons, List.not_mem_nil, implies_true, forall_const, WS, List.getElem_cons_zero, List.getElem_cons_succ, Option.isNone_some, Option.isNone_none, List.getD_cons_zero, List.getD_cons_succ, I.at, atL, atO, atP, evp, evs, retV, ↓reduceIte, Nat.reduceEqDiff, reduceCtorEq, addr_add0, Nat.add_zero, Nat.zero_add, hd0.Eld (show 1 < [rb, rw].length by simp)]
  refine E_call0 ((culletlaw04_twin_spec w1.drew s1 L1 (h1.up B0) b1).mono ?_)
  rintro a1 v1 ⟨o1, c1⟩
  have B1 : RowKit.Below w.heap.size w v1 := B0.trans (c1.mono B0.size)
  have r1 := hd0.up c1
  have z1 : Fw.sees Tryz.prog (.ld (.c (.pointer (some ⟨b, 1, none⟩)))) v1 rw = True := r1.sees (o := 1) (by simp) Tryz.prog
  simp only [ES, List.mem_cons, List.not_mem_nil, implies_true, forall_const, WS, List.getElem_cons_zero, List.getElem_cons_succ, Option.isNone_some, Option.isNone_none, List.getD_cons_zero, List.getD_cons_succ, I.at, atL, atO, atP, evp, evs, retV, ↓reduceIte, Nat.reduceEqDiff, reduceCtorEq, z1]
  refine E_call0 ((culletlaw04_twin_spec v1 s2 L2 (h2.up B1) b2).mono ?_)
  rintro a2 v2 ⟨o2, c2⟩
  have B2 : RowKit.Below w.heap.size w v2 := B1.trans (c2.mono B1.size)
  have r2 := r1.up c2
  have z2 : Fw.sees Tryz.prog (.ld (.c (.pointer (some ⟨b, 1, none⟩)))) v2 rw = True := r2.sees (o := 1) (by simp) Tryz.prog
  have o1 := o1.up c2
  simp only [ES, List.mem_cons, List.not_mem_nil, implies_true, forall_const, WS, List.getElem_cons_zero, List.getElem_cons_succ, Option.isNone_some, Option.isNone_none, List.getD_cons_zero, List.getD_cons_succ, I.at, atL, atO, atP, evp, evs, retV, ↓reduceIte, Nat.reduceEqDiff, reduceCtorEq, z2]
  refine E_call0 ((polys_Ring_w_Mul_spec v2 rw a1 a2 L1 L2 (hw.up B2) o1.sl o2.sl b1 b2).mono ?_)
  rintro v w9 ⟨B9, ⟨g0, g1, s, m, rfl, om, q0, q1, q2⟩ | ⟨hn, rfl⟩⟩
  · simp only [ES, List.mem_cons, List.not_mem_nil, implies_true, forall_const, WS, List.getElem_cons_zero, List.getElem_cons_succ, Option.isNone_some, Option.isNone_none, List.getD_cons_zero, List.getD_cons_succ, I.at, atL, atO, atP, evp, evs, retV, ↓reduceIte, Nat.reduceEqDiff, reduceCtorEq]
    refine ⟨B2.trans (B9.mono B2.size), Or.inl ⟨g0, g1, s, m, rfl, by rw [em16_map]; exact om.mono B2.size, ?_⟩⟩
    simp only [lo16_map]
    exact ⟨q0, q1, q2⟩
  · simp only [ES, List.mem_cons, List.not_mem_nil, implies_true, forall_const, WS, List.getElem_cons_zero, List.getElem_cons_succ, Option.isNone_some, Option.isNone_none, List.getD_cons_zero, List.getD_cons_succ, I.at, atL, atO, atP, evp, evs, retV, ↓reduceIte, Nat.reduceEqDiff, reduceCtorEq]
    exact ⟨B2.trans (B9.mono B2.size), Or.inr ⟨hn, _, rfl, Ow.nil _ _⟩⟩
theorem culletlaw04_Rings_mul_b_spec (w : World) (rb rw s1 s2 : Value) (L1 L2 : List (El 16)) (hb : Ring_b w rb) (hw : Ring_w w rw) (h1 : Sl w s1 L1) (h2 : Sl w s2 L2) (b1 : L1.length ≤ 70368744175616) (b2 : L2.length ≤ 70368744175616) :
    CallV Tryz.prog 13 [.agg #[rb, rw], .bool false, s1, s2] w fun v w' => RowKit.Below w.heap.size w w' ∧ ((L1.length ≤ 1024 ∧ L2.length ≤ 1024 ∧ ∃ s m, v = .tuple #[s, .int .i64 0] ∧ Ow w.heap.size w' s (m.map em8) ∧ tr m = m ∧ co m = co (L1.map lo8) * co (L2.map lo8) ∧ m.length ≤ (L1.map lo8).length + (L2.map lo8).length) ∨ (¬ (L1.length ≤ 1024 ∧ L2.length ≤ 1024) ∧ ∃ s, v = .tuple #[s, .int .i64 5] ∧ Ow w.heap.size w' s ([] : List (El 16)))) := by
  refine run_culletlaw04_Rings_mul (by simp) ?_
  simp only [c_culletlaw04_Rings_mul, WS, List.getElem_cons_zero, List.getElem_cons_succ, Option.isNone_some, Option.isNone_none, List.getD_cons_zero, List.getD_cons_succ, I.at, atL, atO, atP, evp, evs, retV, ↓reduceIte, Nat.reduceEqDiff, reduceCtorEq]
  refine X_box fun b w1 hr hlb hB1 => ?_
  have hr : Row w1 b [rb, rw] := hr
  simp only [WS, List.getElem_cons_zero, List.getElem_cons_succ, Option.isNone_some, Option.isNone_none, List.getD_cons_zero, List.getD_cons_succ, I.at, atL, atO, atP, evp, evs, retV, ↓reduceIte, Nat.reduceEqDiff, reduceCtorEq]
  refine WP_dops ?_
  have hd0 := hr.drew
  have B0 : RowKit.Below w.heap.size w w1.drew := hB1.trans ((bel_drew w1).mono hB1.size)
  simp only [ES, List.mem_cons, List.not_mem_nil, implies_true, forall_const, WS, List.getElem_cons_zero, List.getElem_cons_succ, Option.isNone_some, Option.isNone_none, List.getD_cons_zero, List.getD_cons_succ, I.at, atL, atO, atP, evp, evs, retV, ↓reduceIte, Nat.reduceEqDiff, reduceCtorEq, addr_add0, Nat.add_zero, Nat.zero_add, hd0.Eld (show 0 < [rb, rw].length by simp)]
  refine E_call0 ((culletlaw04_low_spec w1.drew s1 L1 (h1.up B0) b1).mono ?_)
  rintro a1 v1 ⟨o1, c1⟩
  have B1 : RowKit.Below w.heap.size w v1 := B0.trans (c1.mono B0.size)
  have r1 := hd0.up c1
  have z1 : Fw.sees Tryz.prog (.ld (.c (.pointer (some ⟨b, 0, none⟩)))) v1 rb = True := r1.sees (o := 0) (by simp) Tryz.prog
  simp only [ES, List.mem_cons, List.not_mem_nil, implies_true, forall_const, WS, List.getElem_cons_zero, List.getElem_cons_succ, Option.isNone_some, Option.isNone_none, List.getD_cons_zero, List.getD_cons_succ, I.at, atL, atO, atP, evp, evs, retV, ↓reduceIte, Nat.reduceEqDiff, reduceCtorEq, z1]
  refine E_call0 ((culletlaw04_low_spec v1 s2 L2 (h2.up B1) b2).mono ?_)
  rintro a2 v2 ⟨o2, c2⟩
  have B2 : RowKit.Below w.heap.size w v2 := B1.trans (c2.mono B1.size)
  have r2 := r1.up c2
  have z2 : Fw.sees Tryz.prog (.ld (.c (.pointer (some ⟨b, 0, none⟩)))) v2 rb = True := r2.sees (o := 0) (by simp) Tryz.prog
  have o1 := o1.up c2
  simp only [ES, List.mem_cons, List.not_mem_nil, implies_true, forall_const, WS, List.getElem_cons_zero, List.getElem_cons_succ, Option.isNone_some, Option.isNone_none, List.getD_cons_zero, List.getD_cons_succ, I.at, atL, atO, atP, evp, evs, retV, ↓reduceIte, Nat.reduceEqDiff, reduceCtorEq, z2]
  refine E_call0 ((polys_Ring_b_Mul_spec v2 rb a1 a2 (L1.map lo8) (L2.map lo8) (hb.up B2) o1.sl o2.sl (by rw [List.length_map]; exact b1) (by rw [List.length_map]; exact b2)).mono ?_)
  rintro v w9 ⟨B9, ⟨g0, g1, s, m, rfl, om, q0, q1, q2⟩ | ⟨hn, rfl⟩⟩
  · simp only [ES, List.mem_cons, List.not_mem_nil, implies_true, forall_const, WS, List.getElem_cons_zero, List.getElem_cons_succ, Option.isNone_some, Option.isNone_none, List.getD_cons_zero, List.getD_cons_succ, I.at, atL, atO, atP, evp, evs, retV, ↓reduceIte, Nat.reduceEqDiff, reduceCtorEq]
    refine X_call0 ((culletlaw04_up_spec w9 _ m om.sl (by simp only [List.length_map, List.length_nil] at *; omega)).mono ?_)
    rintro v2 w10 ⟨o10, B10⟩
    simp only [WS, List.getElem_cons_zero, List.getElem_cons_succ, Option.isNone_some, Option.isNone_none, List.getD_cons_zero, List.getD_cons_succ, I.at, atL, atO, atP, evp, evs, retV, ↓reduceIte, Nat.reduceEqDiff, reduceCtorEq]
    simp only [List.length_map] at *
    exact ⟨(B2.trans (B9.mono B2.size)).trans (B10.mono (Nat.le_trans B2.size B9.size)), Or.inl ⟨g0, g1, v2, m, rfl, o10.mono (Nat.le_trans B2.size B9.size), q0, q1, q2⟩⟩
  · simp only [ES, List.mem_cons, List.not_mem_nil, implies_true, forall_const, WS, List.getElem_cons_zero, List.getElem_cons_succ, Option.isNone_some, Option.isNone_none, List.getD_cons_zero, List.getD_cons_succ, I.at, atL, atO, atP, evp, evs, retV, ↓reduceIte, Nat.reduceEqDiff, reduceCtorEq]
    refine X_call0 ((culletlaw04_up_spec w9 _ ([] : List (El 8)) (Sl.nil w9) (by simp only [List.length_map, List.length_nil] at *; omega)).mono ?_)
    rintro v2 w10 ⟨o10, B10⟩
    simp only [WS, List.getElem_cons_zero, List.getElem_cons_succ, Option.isNone_some, Option.isNone_none, List.getD_cons_zero, List.getD_cons_succ, I.at, atL, atO, atP, evp, evs, retV, ↓reduceIte, Nat.reduceEqDiff, reduceCtorEq]
    simp only [List.length_map] at *
    exact ⟨(B2.trans (B9.mono B2.size)).trans (B10.mono (Nat.le_trans B2.size B9.size)), Or.inr ⟨hn, v2, rfl, o10.mono (Nat.le_trans B2.size B9.size)⟩⟩
theorem culletlaw04_Rings_vanishing_w_spec (w : World) (rb rw s1 : Value) (L1 : List (El 16)) (hb : Ring_b w rb) (hw : Ring_w w rw) (h1 : Sl w s1 L1) (b1 : L1.length ≤ 70368744175616) :
    CallV Tryz.prog 48 [.agg #[rb, rw], .bool true, s1] w fun v w' => RowKit.Below w.heap.size w w' ∧ ((L1.length ≤ 1024 ∧ ∃ s m, v = .tuple #[s, .int .i64 0] ∧ Ow w.heap.size w' s (m.map em16) ∧ m.length = (L1.map lo16).length + 1 ∧ co m = vps (L1.map lo16)) ∨ (¬ (L1.length ≤ 1024) ∧ ∃ s, v = .tuple #[s, .int .i64 5] ∧ Ow w.heap.size w' s ([] : List (El 16)))) := by
  refine run_culletlaw04_Rings_vanishing (by simp) ?_
  simp only [c_culletlaw04_Rings_vanishing, WS, List.getElem_cons_zero, List.getElem_cons_succ, Option.isNone_some, Option.isNone_none, List.getD_cons_zero, List.getD_cons_succ, I.at, atL, atO, atP, evp, evs, retV, ↓reduceIte, Nat.reduceEqDiff, reduceCtorEq]
  refine X_box fun b w1 hr hlb hB1 => ?_
  have hr : Row w1 b [rb, rw] := hr
  simp only [WS, List.getElem_cons_zero, List.getElem_cons_succ, Option.isNone_some, Option.isNone_none, List.getD_cons_zero, List.getD_cons_succ, I.at, atL, atO, atP, evp, evs, retV, ↓reduceIte, Nat.reduceEqDiff, reduceCtorEq]
  refine WP_dops ?_
  have hd0 := hr.drew
  have B0 : RowKit.Below w.heap.size w w1.drew := hB1.trans ((bel_drew w1).mono hB1.size)
  simp only [ES, List.mem_cons, List.not_mem_nil, implies_true, forall_const, WS, List.getElem_cons_zero, List.getElem_cons_succ, Option.isNone_some, Option.isNone_none, List.getD_cons_zero, List.getD_cons_succ, I.at, atL, atO, atP, evp, evs, retV, ↓reduceIte, Nat.reduceEqDiff, reduceCtorEq, addr_add0, Nat.add_zero, Nat.zero_add, hd0.Eld (show 1 < [rb, rw].length by simp)]
  refine E_call0 ((culletlaw04_twin_spec w1.drew s1 L1 (h1.up B0) b1).mono ?_)
  rintro a1 v1 ⟨o1, c1⟩
  have B1 : RowKit.Below w.heap.size w v1 := B0.trans (c1.mono B0.size)
  have r1 := hd0.up c1
  have z1 : Fw.sees Tryz.prog (.ld (.c (.pointer (some ⟨b, 1, none⟩)))) v1 rw = True := r1.sees (o := 1) (by simp) Tryz.prog
  simp only [ES, List.mem_cons, List.not_mem_nil, implies_true, forall_const, WS, List.getElem_cons_zero, List.getElem_cons_succ, Option.isNone_some, Option.isNone_none, List.getD_cons_zero, List.getD_cons_succ, I.at, atL, atO, atP, evp, evs, retV, ↓reduceIte, Nat.reduceEqDiff, reduceCtorEq, z1]
  refine E_call0 ((polys_Ring_w_Vanishing_spec v1 rw a1 L1 (hw.up B1) o1.sl b1).mono ?_)
  rintro v w9 ⟨B9, ⟨g0, s, m, rfl, om, q0, q1⟩ | ⟨hn, rfl⟩⟩
  · simp only [ES, List.mem_cons, List.not_mem_nil, implies_true, forall_const, WS, List.getElem_cons_zero, List.getElem_cons_succ, Option.isNone_some, Option.isNone_none, List.getD_cons_zero, List.getD_cons_succ, I.at, atL, atO, atP, evp, evs, retV, ↓reduceIte, Nat.reduceEqDiff, reduceCtorEq]
    refine ⟨B1.trans (B9.mono B1.size), Or.inl ⟨g0, s, m, rfl, by rw [em16_map]; exact om.mono B1.size, ?_⟩⟩
    simp only [lo16_map]
    exact ⟨q0, q1⟩
  · simp only [ES, List.mem_cons, List.not_mem_nil, implies_true, forall_const, WS, List.getElem_cons_zero, List.getElem_cons_succ, Option.isNone_some, Option.isNone_none, List.getD_cons_zero, List.getD_cons_succ, I.at, atL, atO, atP, evp, evs, retV, ↓reduceIte, Nat.reduceEqDiff, reduceCtorEq]
    exact ⟨B1.trans (B9.mono B1.size), Or.inr ⟨hn, _, rfl, Ow.nil _ _⟩⟩
theorem culletlaw04_Rings_vanishing_b_spec (w : World) (rb rw s1 : Value) (L1 : List (El 16)) (hb : Ring_b w rb) (hw : Ring_w w rw) (h1 : Sl w s1 L1) (b1 : L1.length ≤ 70368744175616) :
    CallV Tryz.prog 48 [.agg #[rb, rw], .bool false, s1] w fun v w' => RowKit.Below w.heap.size w w' ∧ ((L1.length ≤ 1024 ∧ ∃ s m, v = .tuple #[s, .int .i64 0] ∧ Ow w.heap.size w' s (m.map em8) ∧ m.length = (L1.map lo8).length + 1 ∧ co m = vps (L1.map lo8)) ∨ (¬ (L1.length ≤ 1024) ∧ ∃ s, v = .tuple #[s, .int .i64 5] ∧ Ow w.heap.size w' s ([] : List (El 16)))) := by
  refine run_culletlaw04_Rings_vanishing (by simp) ?_
  simp only [c_culletlaw04_Rings_vanishing, WS, List.getElem_cons_zero, List.getElem_cons_succ, Option.isNone_some, Option.isNone_none, List.getD_cons_zero, List.getD_cons_succ, I.at, atL, atO, atP, evp, evs, retV, ↓reduceIte, Nat.reduceEqDiff, reduceCtorEq]
  refine X_box fun b w1 hr hlb hB1 => ?_
  have hr : Row w1 b [rb, rw] := hr
  simp only [WS, List.getElem_cons_zero, List.getElem_cons_succ, Option.isNone_some, Option.isNone_none, List.getD_cons_zero, List.getD_cons_succ, I.at, atL, atO, atP, evp, evs, retV, ↓reduceIte, Nat.reduceEqDiff, reduceCtorEq]
  refine WP_dops ?_
  have hd0 := hr.drew
  have B0 : RowKit.Below w.heap.size w w1.drew := hB1.trans ((bel_drew w1).mono hB1.size)
  simp only [ES, List.mem_cons, List.not_mem_nil, implies_true, forall_const, WS, List.getElem_cons_zero, List.getElem_cons_succ, Option.isNone_some, Option.isNone_none, List.getD_cons_zero, List.getD_cons_succ, I.at, atL, atO, atP, evp, evs, retV, ↓reduceIte, Nat.reduceEqDiff, reduceCtorEq, addr_add0, Nat.add_zero, Nat.zero_add, hd0.Eld (show 0 < [rb, rw].length by simp)]
  refine E_call0 ((culletlaw04_low_spec w1.drew s1 L1 (h1.up B0) b1).mono ?_)
  rintro a1 v1 ⟨o1, c1⟩
  have B1 : RowKit.Below w.heap.size w v1 := B0.trans (c1.mono B0.size)
  have r1 := hd0.up c1
  have z1 : Fw.sees Tryz.prog (.ld (.c (.pointer (some ⟨b, 0, none⟩)))) v1 rb = True := r1.sees (o := 0) (by simp) Tryz.prog
  simp only [ES, List.mem_cons, List.not_mem_nil, implies_true, forall_const, WS, List.getElem_cons_zero, List.getElem_cons_succ, Option.isNone_some, Option.isNone_none, List.getD_cons_zero, List.getD_cons_succ, I.at, atL, atO, atP, evp, evs, retV, ↓reduceIte, Nat.reduceEqDiff, reduceCtorEq, z1]
  refine E_call0 ((polys_Ring_b_Vanishing_spec v1 rb a1 (L1.map lo8) (hb.up B1) o1.sl (by rw [List.length_map]; exact b1)).mono ?_)
  rintro v w9 ⟨B9, ⟨g0, s, m, rfl, om, q0, q1⟩ | ⟨hn, rfl⟩⟩
  · simp only [ES, List.mem_cons, List.not_mem_nil, implies_true, forall_const, WS, List.getElem_cons_zero, List.getElem_cons_succ, Option.isNone_some, Option.isNone_none, List.getD_cons_zero, List.getD_cons_succ, I.at, atL, atO, atP, evp, evs, retV, ↓reduceIte, Nat.reduceEqDiff, reduceCtorEq]
    refine X_call0 ((culletlaw04_up_spec w9 _ m om.sl (by simp only [List.length_map, List.length_nil] at *; omega)).mono ?_)
    rintro v2 w10 ⟨o10, B10⟩
    simp only [WS, List.getElem_cons_zero, List.getElem_cons_succ, Option.isNone_some, Option.isNone_none, List.getD_cons_zero, List.getD_cons_succ, I.at, atL, atO, atP, evp, evs, retV, ↓reduceIte, Nat.reduceEqDiff, reduceCtorEq]
    simp only [List.length_map] at *
    exact ⟨(B1.trans (B9.mono B1.size)).trans (B10.mono (Nat.le_trans B1.size B9.size)), Or.inl ⟨g0, v2, m, rfl, o10.mono (Nat.le_trans B1.size B9.size), q0, q1⟩⟩
  · simp only [ES, List.mem_cons, List.not_mem_nil, implies_true, forall_const, WS, List.getElem_cons_zero, List.getElem_cons_succ, Option.isNone_some, Option.isNone_none, List.getD_cons_zero, List.getD_cons_succ, I.at, atL, atO, atP, evp, evs, retV, ↓reduceIte, Nat.reduceEqDiff, reduceCtorEq]
    refine X_call0 ((culletlaw04_up_spec w9 _ ([] : List (El 8)) (Sl.nil w9) (by simp only [List.length_map, List.length_nil] at *; omega)).mono ?_)
    rintro v2 w10 ⟨o10, B10⟩
    simp only [WS, List.getElem_cons_zero, List.getElem_cons_succ, Option.isNone_some, Option.isNone_none, List.getD_cons_zero, List.getD_cons_succ, I.at, atL, atO, atP, evp, evs, retV, ↓reduceIte, Nat.reduceEqDiff, reduceCtorEq]
    simp only [List.length_map] at *
    exact ⟨(B1.trans (B9.mono B1.size)).trans (B10.mono (Nat.le_trans B1.size B9.size)), Or.inr ⟨hn, v2, rfl, o10.mono (Nat.le_trans B1.size B9.size)⟩⟩
theorem culletlaw04_Rings_eval_b_spec (w : World) (rb rw s1 : Value) (L1 : List (El 16)) (x : El 8) (hb : Ring_b w rb) (hw : Ring_w w rw) (h1 : Sl w s1 L1) (b1 : L1.length ≤ 70368744175616) :
    CallV Tryz.prog 15 [.agg #[rb, rw], .bool false, s1, .int .u16 ((em8 x).v.toNat : Int)] w fun v w' => RowKit.Below w.heap.size w w' ∧ v = .int .u16 ((em8 (evl (L1.map lo8) x)).v.toNat : Int) := by
  refine run_culletlaw04_Rings_eval (by simp) ?_
  simp only [c_culletlaw04_Rings_eval, WS, List.getElem_cons_zero, List.getElem_cons_succ, Option.isNone_some, Option.isNone_none, List.getD_cons_zero, List.getD_cons_succ, I.at, atL, atO, atP, evp, evs, retV, ↓reduceIte, Nat.reduceEqDiff, reduceCtorEq]
  refine X_box fun b w1 hr hlb hB1 => ?_
  have hr : Row w1 b [rb, rw] := hr
  simp only [WS, List.getElem_cons_zero, List.getElem_cons_succ, Option.isNone_some, Option.isNone_none, List.getD_cons_zero, List.getD_cons_succ, I.at, atL, atO, atP, evp, evs, retV, ↓reduceIte, Nat.reduceEqDiff, reduceCtorEq]
  refine WP_dops ?_
  have hd0 := hr.drew
  have B0 : RowKit.Below w.heap.size w w1.drew := hB1.trans ((bel_drew w1).mono hB1.size)
  simp only [ES, List.mem_cons, List.not_mem_nil, implies_true, forall_const, WS, List.getElem_cons_zero, List.getElem_cons_succ, Option.isNone_some, Option.isNone_none, List.getD_cons_zero, List.getD_cons_succ, I.at, atL, atO, atP, evp, evs, retV, ↓reduceIte, Nat.reduceEqDiff, reduceCtorEq, addr_add0, Nat.add_zero, Nat.zero_add, hd0.Eld (show 0 < [rb, rw].length by simp)]
  refine E_call0 ((culletlaw04_low_spec w1.drew s1 L1 (h1.up B0) b1).mono ?_)
  rintro a1 v1 ⟨o1, c1⟩
  have B1 : RowKit.Below w.heap.size w v1 := B0.trans (c1.mono B0.size)
  have r1 := hd0.up c1
  have z1 : Fw.sees Tryz.prog (.ld (.c (.pointer (some ⟨b, 0, none⟩)))) v1 rb = True := r1.sees (o := 0) (by simp) Tryz.prog
  simp only [ES, List.mem_cons, List.not_mem_nil, implies_true, forall_const, WS, List.getElem_cons_zero, List.getElem_cons_succ, Option.isNone_some, Option.isNone_none, List.getD_cons_zero, List.getD_cons_succ, I.at, atL, atO, atP, evp, evs, retV, ↓reduceIte, Nat.reduceEqDiff, reduceCtorEq, z1, em8_nat, wrap_u8 _ (show x.v.toNat < 256 from x.v.isLt)]
  refine E_call0 ((polys_Ring_b_Eval_spec v1 rb a1 (L1.map lo8) x (hb.up B1) o1.sl (by rw [List.length_map]; exact b1)).mono ?_)
  rintro v w9 ⟨rfl, B9⟩
  simp only [ES, List.mem_cons, List.not_mem_nil, implies_true, forall_const, WS, List.getElem_cons_zero, List.getElem_cons_succ, Option.isNone_some, Option.isNone_none, List.getD_cons_zero, List.getD_cons_succ, I.at, atL, atO, atP, evp, evs, retV, ↓reduceIte, Nat.reduceEqDiff, reduceCtorEq]
  have := (evl (L1.map lo8) x).v.isLt
  simp only [ES, List.mem_cons, List.not_mem_nil, implies_true, forall_const, WS, List.getElem_cons_zero, List.getElem_cons_succ, Option.isNone_some, Option.isNone_none, List.getD_cons_zero, List.getD_cons_succ, I.at, atL, atO, atP, evp, evs, retV, ↓reduceIte, Nat.reduceEqDiff, reduceCtorEq, em8_nat, wrap_u16 _ (show (evl (L1.map lo8) x).v.toNat < 65536 by omega)]
  exact B1.trans (B9.mono B1.size)
end Go.Proofs.YtcdagkcchfibjaaGreat.Fw
