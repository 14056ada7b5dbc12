import Derived.Test.YtbaljbadlfopgaaFwQW
set_option linter.all false
/- The steps of a region whose order is open: FwN's and FwQ's lemmas again (written by mkE.py). -/
set_option linter.unusedVariables false
set_option linter.unusedSimpArgs false
namespace Go.Fw
open Go Go.RowKit
/-- What was read stays so. -/
def okR (P : Program) (u : List Nat) (w : World) : List RN → Prop
  | [] => True
  | (n, i, v) :: rs => (n ∈ u → sees P i w v) ∧ okR P u w rs
theorem lZ27 (P : Program) (u : List Nat) (w : World) : okR P u w [] = True := by unfold okR; exact (Eq.refl _).trans rfl
theorem lZ15 (P : Program) (u : List Nat) (w : World) (n : Nat) (i : I) (v : Value) (rs : List RN) : okR P u w ((n, i, v) :: rs) = ((n ∈ u → sees P i w v) ∧ okR P u w rs) := by rw [okR]
theorem okR_all {P : Program} {u : List Nat} {w : World} : ∀ {rs : List RN}, okR P u w rs → ∀ r ∈ rs, r.1 ∈ u → sees P r.2.1 w r.2.2
  | [], _ => fun r h => by cases h
  | (n, i, v) :: rs, h => fun r hr => by
    rw [lZ15] at h
    rcases List.mem_cons.1 hr with rfl | hr
    · exact h.1
    · exact okR_all h.2 r hr
theorem lZ62 (P : Program) (w : World) (rs : List RN) : okR P [] w rs = True := by
  induction rs with
  | nil => exact lZ27 _ _ _
  | cons r rs ih => obtain ⟨n, i, v⟩ := r; rw [lZ15, ih]; simp
theorem XE_eff {P : Program} {n : Nat} {i : I} {u : List Nat} {d : Option Nat} {l : List D} {Q : T → World → Prop} {rs : List RN} {es : List EN} {t : T} {w : World} (hk : i.kind = .eff)
    (h : stepI P i tz w fun v w' => okR P u w' rs ∧ WE P Q l rs ((n, w) :: es) (put t d v) w') : XE P n i u d l Q rs es t w := by
  unfold XE
  rw [hk]
  exact stepI_mono (fun v w' h => ⟨okR_all h.1, h.2⟩) h
theorem XE_read {P : Program} {n : Nat} {i : I} {u : List Nat} {d : Option Nat} {l : List D} {Q : T → World → Prop} {rs : List RN} {es : List EN} {t : T} {w : World} (hk : i.kind = .read) :
    XE P n i u d l Q rs es t w = stepI P i tz w fun v w' => (∀ e ∈ es, e.1 ∈ u → sees P i e.2 v) ∧ WE P Q l ((n, i, v) :: rs) es (put t d v) w' := by
  unfold XE
  rw [hk]
def okE (P : Program) (i : I) (v : Value) (u : List Nat) : List EN → Prop
  | [] => True
  | (n, w) :: es => (n ∈ u → sees P i w v) ∧ okE P i v u es
theorem lZ22 (P : Program) (i : I) (v : Value) (u : List Nat) : okE P i v u [] = True := by unfold okE; exact (Eq.refl _).trans rfl
theorem lZ20 (P : Program) (i : I) (v : Value) (u : List Nat) (n : Nat) (w : World) (es : List EN) : okE P i v u ((n, w) :: es) = ((n ∈ u → sees P i w v) ∧ okE P i v u es) := by rw [okE]
theorem okE_all (P : Program) (i : I) (v : Value) (u : List Nat) : ∀ es : List EN, (∀ e ∈ es, e.1 ∈ u → sees P i e.2 v) = okE P i v u es
  | [] => by rw [lZ22]; simp
  | (n, w) :: es => by rw [lZ20, ← okE_all P i v u es]; simp
theorem lZ90 (P : Program) (i : I) (v : Value) (es : List EN) : okE P i v [] es = True := by rw [← okE_all]; simp
theorem lZ8 (n : Nat) : (n ∈ ([] : List Nat)) = False := by simp
section
variable (P : Program) (d : Option Nat) (l : List D) (Q : T → World → Prop) (t : T) (w : World) {n_ : Nat} {u_ : List Nat} {rs_ : List RN} {es_ : List EN}
theorem lZ61 (v : Value) : XE P n_ (.mov (.c v)) u_ d l Q rs_ es_ t w = WE P Q l rs_ es_ (put t d v) w := propext Iff.rfl
theorem lZ44 (b : Bool) (x y : Value) : XE P n_ (.pick (.c (.bool b)) (.c x) (.c y)) u_ d l Q rs_ es_ t w = WE P Q l rs_ es_ (put t d (if b then x else y)) w := propext Iff.rfl
theorem lZ63 (k : IntKind) (a b : Int) : XE P n_ (.bin .add (.c (.int k a)) (.c (.int k b))) u_ d l Q rs_ es_ t w = WE P Q l rs_ es_ (put t d (.int k (k.wrap (a + b)))) w := propext ⟨fun h => h.2, fun h => ⟨rfl, h⟩⟩
theorem lZ88 (k : IntKind) (a b : Int) : XE P n_ (.bin .sub (.c (.int k a)) (.c (.int k b))) u_ d l Q rs_ es_ t w = WE P Q l rs_ es_ (put t d (.int k (k.wrap (a - b)))) w := propext ⟨fun h => h.2, fun h => ⟨rfl, h⟩⟩
theorem lZ72 (k : IntKind) (a b : Int) : XE P n_ (.bin .mul (.c (.int k a)) (.c (.int k b))) u_ d l Q rs_ es_ t w = WE P Q l rs_ es_ (put t d (.int k (k.wrap (a * b)))) w := propext ⟨fun h => h.2, fun h => ⟨rfl, h⟩⟩
theorem E_quo (k : IntKind) (a b : Int) : XE P n_ (.bin .quo (.c (.int k a)) (.c (.int k b))) u_ d l Q rs_ es_ t w = (b ≠ 0 ∧ WE P Q l rs_ es_ (put t d (.int k (k.wrap (a.tdiv b)))) w) := propext ⟨fun h => h.2, fun h => ⟨rfl, h⟩⟩
theorem E_rem (k : IntKind) (a b : Int) : XE P n_ (.bin .rem (.c (.int k a)) (.c (.int k b))) u_ d l Q rs_ es_ t w = (b ≠ 0 ∧ WE P Q l rs_ es_ (put t d (.int k (a.tmod b))) w) := propext ⟨fun h => h.2, fun h => ⟨rfl, h⟩⟩
theorem lZ99 (k : IntKind) (a b : Int) : XE P n_ (.bin .and (.c (.int k a)) (.c (.int k b))) u_ d l Q rs_ es_ t w = WE P Q l rs_ es_ (put t d (.int k (bitsOp .and k a b))) w := propext ⟨fun h => h.2, fun h => ⟨rfl, h⟩⟩
theorem lZ109 (k : IntKind) (a b : Int) : XE P n_ (.bin .or (.c (.int k a)) (.c (.int k b))) u_ d l Q rs_ es_ t w = WE P Q l rs_ es_ (put t d (.int k (bitsOp .or k a b))) w := propext ⟨fun h => h.2, fun h => ⟨rfl, h⟩⟩
theorem lZ100 (k : IntKind) (a b : Int) : XE P n_ (.bin .xor (.c (.int k a)) (.c (.int k b))) u_ d l Q rs_ es_ t w = WE P Q l rs_ es_ (put t d (.int k (bitsOp .xor k a b))) w := propext ⟨fun h => h.2, fun h => ⟨rfl, h⟩⟩
theorem lZ12 (k : IntKind) (a b : Int) : XE P n_ (.bin .andNot (.c (.int k a)) (.c (.int k b))) u_ d l Q rs_ es_ t w = WE P Q l rs_ es_ (put t d (.int k (bitsOp .andNot k a b))) w := propext ⟨fun h => h.2, fun h => ⟨rfl, h⟩⟩
theorem lZ64 (k : IntKind) (a b : Int) : XE P n_ (.bin .eql (.c (.int k a)) (.c (.int k b))) u_ d l Q rs_ es_ t w = WE P Q l rs_ es_ (put t d (.bool (decide (a = b)))) w := propext ⟨fun h => h.2, fun h => ⟨rfl, h⟩⟩
theorem lZ86 (k : IntKind) (a b : Int) : XE P n_ (.bin .neq (.c (.int k a)) (.c (.int k b))) u_ d l Q rs_ es_ t w = WE P Q l rs_ es_ (put t d (.bool (!decide (a = b)))) w := propext ⟨fun h => h.2, fun h => ⟨rfl, h⟩⟩
theorem lZ102 (k : IntKind) (a b : Int) : XE P n_ (.bin .lss (.c (.int k a)) (.c (.int k b))) u_ d l Q rs_ es_ t w = WE P Q l rs_ es_ (put t d (.bool (decide (a < b)))) w := propext ⟨fun h => h.2, fun h => ⟨rfl, h⟩⟩
theorem lZ95 (k : IntKind) (a b : Int) : XE P n_ (.bin .leq (.c (.int k a)) (.c (.int k b))) u_ d l Q rs_ es_ t w = WE P Q l rs_ es_ (put t d (.bool (decide (a ≤ b)))) w := propext ⟨fun h => h.2, fun h => ⟨rfl, h⟩⟩
theorem lZ67 (k : IntKind) (a b : Int) : XE P n_ (.bin .gtr (.c (.int k a)) (.c (.int k b))) u_ d l Q rs_ es_ t w = WE P Q l rs_ es_ (put t d (.bool (decide (b < a)))) w := propext ⟨fun h => h.2, fun h => ⟨rfl, h⟩⟩
theorem lZ97 (k : IntKind) (a b : Int) : XE P n_ (.bin .geq (.c (.int k a)) (.c (.int k b))) u_ d l Q rs_ es_ t w = WE P Q l rs_ es_ (put t d (.bool (decide (b ≤ a)))) w := propext ⟨fun h => h.2, fun h => ⟨rfl, h⟩⟩
theorem lZ57 (n a b : Bool) : XE P n_ (.eqb n (.c (.bool a)) (.c (.bool b))) u_ d l Q rs_ es_ t w = WE P Q l rs_ es_ (put t d (.bool ((a == b) != n))) w := propext Iff.rfl
theorem lZ103 (n : Bool) (a : Option Addr) : XE P n_ (.eqp n (.c (.pointer a)) (.c (.pointer none))) u_ d l Q rs_ es_ t w = WE P Q l rs_ es_ (put t d (.bool (a.isNone != n))) w := propext ⟨fun h => h.2, fun h => ⟨rfl, h⟩⟩
theorem lZ78 (b : Bool) : XE P n_ (.un .not (.c (.bool b))) u_ d l Q rs_ es_ t w = WE P Q l rs_ es_ (put t d (.bool !b)) w := propext Iff.rfl
theorem lZ75 (k : IntKind) (n : Int) : XE P n_ (.un .neg (.c (.int k n))) u_ d l Q rs_ es_ t w = WE P Q l rs_ es_ (put t d (.int k (k.wrap (0 - n)))) w := propext Iff.rfl
theorem lZ87 (k k' : IntKind) (n : Int) : XE P n_ (.cnv k (.c (.int k' n))) u_ d l Q rs_ es_ t w = WE P Q l rs_ es_ (put t d (.int k (k.wrap n))) w := propext Iff.rfl
theorem lZ106 (i : Nat) (vs : List Value) : XE P n_ (.ext (.c (.tuple vs.toArray)) i) u_ d l Q rs_ es_ t w = getK vs i fun v => WE P Q l rs_ es_ (put t d v) w := propext Iff.rfl
theorem lZ84 (a : Addr) : XE P n_ (.nil (.c (.pointer (some a)))) u_ d l Q rs_ es_ t w = WE P Q l rs_ es_ (put t d (.pointer (some a))) w := propext Iff.rfl
theorem lZ48 (f : FuncId) (a c : Array Value) : XE P n_ (.nil (.c (.func (.func f) a c))) u_ d l Q rs_ es_ t w = WE P Q l rs_ es_ (put t d (.func (.func f) a c)) w := propext Iff.rfl
theorem lZ82 (o : Nat) (a : Addr) : XE P n_ (.fad o (.c (.pointer (some a)))) u_ d l Q rs_ es_ t w = WE P Q l rs_ es_ (put t d (.pointer (some (a.add o)))) w := propext Iff.rfl
theorem lZ80 (o : Nat) (vs : List Value) : XE P n_ (.fld o (.c (.agg vs.toArray))) u_ d l Q rs_ es_ t w = getK vs o fun v => WE P Q l rs_ es_ (put t d v) w := propext Iff.rfl
theorem lZ46 (o n : Nat) (vs : List Value) : XE P n_ (.fldn o n (.c (.agg vs.toArray))) u_ d l Q rs_ es_ t w = WE P Q l rs_ es_ (put t d (.agg ((vs.drop o).take n).toArray)) w := propext Iff.rfl
theorem lZ69 (b : Bool) (k : IntKind) (x y : Int) : XE P n_ (.mnx b (.c (.int k x)) (.c (.int k y))) u_ d l Q rs_ es_ t w = WE P Q l rs_ es_ (put t d (.int k (if b then (if y < x then y else x) else (if y > x then y else x)))) w := propext Iff.rfl
theorem lZ77 (f : FuncId) (a c : List X) : XE P n_ (.mkf f a c) u_ d l Q rs_ es_ t w = WE P Q l rs_ es_ (put t d (.func (.func f) (evs tz a).toArray (evs tz c).toArray)) w := propext Iff.rfl
theorem lZ60 (ty : TypeId) (v : Value) : XE P n_ (.mki ty (.c v)) u_ d l Q rs_ es_ t w = WE P Q l rs_ es_ (put t d (.iface ty v)) w := propext Iff.rfl
theorem lZ33 (n : Bool) (a : Option Addr) (m c : Nat) : XE P n_ (.isn .s n (.c (.slice a m c))) u_ d l Q rs_ es_ t w = WE P Q l rs_ es_ (put t d (.bool (a.isNone != n))) w := propext Iff.rfl
theorem lZ43 (n : Bool) (f : Go.Fn) (a c : Array Value) : XE P n_ (.isn .f n (.c (.func f a c))) u_ d l Q rs_ es_ t w = WE P Q l rs_ es_ (put t d (.bool (false != n))) w := propext Iff.rfl
theorem lZ39 (n : Bool) : XE P n_ (.isn .f n (.c .nilFunc)) u_ d l Q rs_ es_ t w = WE P Q l rs_ es_ (put t d (.bool (true != n))) w := propext Iff.rfl
theorem lZ34 (n : Bool) (ty : TypeId) (v : Value) : XE P n_ (.isn .i n (.c (.iface ty v))) u_ d l Q rs_ es_ t w = WE P Q l rs_ es_ (put t d (.bool (false != n))) w := propext Iff.rfl
theorem lZ51 (n : Bool) : XE P n_ (.isn .i n (.c .nilIface)) u_ d l Q rs_ es_ t w = WE P Q l rs_ es_ (put t d (.bool (true != n))) w := propext Iff.rfl
end
section
variable {α : Type} [Cell α] {s : Value} {xs : List α} {w : World} {n_ : Nat} {u_ : List Nat} {rs_ : List RN} {es_ : List EN}
theorem Sl.Elen (h : Sl w s xs) (P : Program) (d : Option Nat) (l : List D) (Q : T → World → Prop) (t : T) (w' : World) : XE P n_ (.len (.c s)) u_ d l Q rs_ es_ t w' = WE P Q l rs_ es_ (put t d (.int .i64 (xs.length : Int))) w' := h.len (fun v => WE P Q l rs_ es_ (put t d v) w')
theorem Sl.Eix (h : Sl w s xs) {k : IntKind} {i : Nat} (hi : i < xs.length) (P : Program) (d : Option Nat) (l : List D) (Q : T → World → Prop) (t : T) (w' : World) : XE P n_ (.ixs 1 (.c s) (.c (.int k (i : Int)))) u_ d l Q rs_ es_ t w' = WE P Q l rs_ es_ (put t d (elP s i)) w' := h.ix hi (fun v => WE P Q l rs_ es_ (put t d v) w')
theorem Sl.EslcHi (h : Sl w s xs) {k' : IntKind} {hi : Nat} (h2 : hi ≤ xs.length) (P : Program) (d : Option Nat) (l : List D) (Q : T → World → Prop) (t : T) (w' : World) :
    XE P n_ (.slc 1 (.c s) none (some (.c (.int k' (hi : Int)))) none) u_ d l Q rs_ es_ t w' = WE P Q l rs_ es_ (put t d (Fw.sub s 0 hi)) w' := h.slcHi h2 (fun v => WE P Q l rs_ es_ (put t d v) w')
end
section
variable {α : Type} [Cell α] {s : Value} {xs : List α} {w : World} {n_ : Nat} {u_ : List Nat} {rs_ : List RN} {es_ : List EN}
theorem Sl.Eld (h : Sl w s xs) {i : Nat} (hi : i < xs.length) (P : Program) (d : Option Nat) (l : List D) (Q : T → World → Prop) (t : T) :
    XE P n_ (.ld (.c (elP s i))) u_ d l Q rs_ es_ t w = (okE P (.ld (.c (elP s i))) (Cell.v xs[i]) u_ es_ ∧ WE P Q l ((n_, .ld (.c (elP s i)), Cell.v xs[i]) :: rs_) es_ (put t d (Cell.v xs[i])) w) := by
  rw [XE_read rfl, ← okE_all]; exact h.ld hi _
theorem Sl.sees (h : Sl w s xs) {i : Nat} (hi : i < xs.length) (P : Program) : Fw.sees P (.ld (.c (elP s i))) w (Cell.v xs[i]) = True := by
  unfold Fw.sees; exact (h.ld hi _).trans (by simp)
theorem lZ85 (P : Program) (d : Option Nat) (l : List D) (Q : T → World → Prop) (t : T) (w : World) (n : Bool) (xs ys : List (El 8)) : XE P n_ (.eqt n (.c (str xs)) (.c (str ys))) u_ d l Q rs_ es_ t w = WE P Q l rs_ es_ (put t d (.bool (decide (xs = ys) != n))) w := by
  rw [← str_eq]; rfl
theorem Sl.Es2t {xs : List (El 8)} (h : Sl w s xs) (P : Program) (d : Option Nat) (l : List D) (Q : T → World → Prop) (t : T) :
    XE P n_ (.s2t (.c s)) u_ d l Q rs_ es_ t w = (okE P (.s2t (.c s)) (str xs) u_ es_ ∧ WE P Q l ((n_, .s2t (.c s), str xs) :: rs_) es_ (put t d (str xs)) w) := by
  rw [XE_read rfl, ← okE_all]
  exact h.s2t (fun v => (∀ e ∈ es_, e.1 ∈ u_ → Fw.sees P (.s2t (.c s)) e.2 v) ∧ WE P Q l ((n_, .s2t (.c s), v) :: rs_) es_ (put t d v) w)
theorem Row.Eld {b : Nat} {cs : List Value} (h : Row w b cs) {o : Nat} (ho : o < cs.length) (P : Program) (d : Option Nat) (l : List D) (Q : T → World → Prop) (t : T) :
    XE P n_ (.ld (.c (.pointer (some ⟨b, o, none⟩)))) u_ d l Q rs_ es_ t w = (okE P (.ld (.c (.pointer (some ⟨b, o, none⟩)))) cs[o] u_ es_ ∧ WE P Q l ((n_, .ld (.c (.pointer (some ⟨b, o, none⟩))), cs[o]) :: rs_) es_ (put t d cs[o]) w) := by
  rw [XE_read rfl, ← okE_all]
  have := row_cell h (List.getElem?_eq_getElem ho)
  apply propext
  constructor
  · rintro ⟨v, hv, hk⟩
    rw [this] at hv; cases hv; exact hk
  · intro hk; exact ⟨_, this, hk⟩
theorem Row.sees {b : Nat} {cs : List Value} (h : Row w b cs) {o : Nat} (ho : o < cs.length) (P : Program) : Fw.sees P (.ld (.c (.pointer (some ⟨b, o, none⟩)))) w cs[o] = True := by
  have := row_cell h (List.getElem?_eq_getElem ho)
  apply propext
  constructor
  · intro _; trivial
  · intro _; exact ⟨_, this, rfl⟩
theorem bff : (false != false) = false := rfl
theorem btf : (true != false) = true := rfl
theorem btt : (true != true) = false := rfl
theorem bft : (false != true) = true := rfl
/-- The same memory. -/
def Like (w w' : World) : Prop := Below w.heap.size w w' ∧ w'.heap = w.heap
theorem Like.refl (w : World) : Like w w := ⟨Below.refl _ _, rfl⟩
theorem Like.drew (w : World) : Like w w.drew := ⟨bel_drew w, rfl⟩
theorem Like.trans {w w1 w2 : World} (h : Like w w1) (h' : Like w1 w2) : Like w w2 := ⟨h.1.trans (by have := h'.1; rw [h.2] at this; exact this), h'.2.trans h.2⟩
theorem Like.sl {α : Type} [Cell α] {w w' : World} {s : Value} {l : List α} (h : Like w w') (hs : Sl w s l) : Sl w' s l := hs.up h.1
theorem Like.ow {α : Type} [Cell α] {w w' : World} {B : Nat} {s : Value} {l : List α} (h : Like w w') (hs : Ow B w s l) : Ow B w' s l := hs.up h.1
theorem Like.row {w w' : World} {b : Nat} {cs : List Value} (h : Like w w') (hs : Row w b cs) : Row w' b cs := row_up hs (by rw [h.2])
theorem Like.size {w w' : World} (h : Like w w') : w'.heap.size = w.heap.size := by rw [h.2]
theorem Like.bel {w0 w w' : World} {B : Nat} (h : Like w w') (hB : Below B w0 w) (hs : B ≤ w.heap.size) : Below B w0 w' := hB.trans (h.1.mono hs)
theorem W_monoQ {P : Program} {Q Q' : T → World → Prop} (h : ∀ t w, Q t w → Q' t w) : ∀ (l : List D) (t : T) (w : World), W P Q l t w → W P Q' l t w
  | [], t, w, hq => h t w hq
  | d :: l, t, w, hq => stepD_mono (fun v w' hv => W_monoQ h l _ w' hv) hq
theorem WD_monoQ {P : Program} {Q Q' : T → World → Prop} (h : ∀ t w, Q t w → Q' t w) : ∀ (l : List D) (rs : Logs) (es : Effs) (t : T) (w : World), WD P Q l rs es t w → WD P Q' l rs es t w
  | [], rs, es, t, w, hq => h t w hq
  | d :: l, rs, es, t, w, hq => by
    rw [WD_cons] at hq ⊢
    exact stepD_mono (fun v w' hv => ⟨hv.1, WD_monoQ h l _ _ _ w' hv.2⟩) hq
theorem WP_monoQ {P : Program} : ∀ (c : C) {Q Q' : Ex → T → World → Prop} (h : ∀ e t w, Q e t w → Q' e t w) (t : T) (w : World), WP P c Q t w → WP P c Q' t w
  | .skip, Q, Q', h, t, w, hq => h _ _ _ hq
  | .ret, Q, Q', h, t, w, hq => h _ _ _ hq
  | .exit i, Q, Q', h, t, w, hq => h _ _ _ hq
  | .ops l, Q, Q', h, t, w, hq => W_monoQ (h _) l t w hq
  | .dops l, Q, Q', h, t, w, hq => WD_monoQ (h _) l _ _ t _ hq
  | .seq a b, Q, Q', h, t, w, hq => WP_monoQ a (fun e t w he => by
      cases e with
      | normal => exact WP_monoQ b h t w he
      | _ => exact h _ _ _ he) t w hq
  | .ite x a b, Q, Q', h, t, w, hq => by
    unfold WP at hq ⊢
    unfold asB at hq ⊢
    split at hq
    · split at hq
      · rw [if_pos (by assumption)]; exact WP_monoQ a h t w hq
      · rw [if_neg (by assumption)]; exact WP_monoQ b h t w hq
    · exact hq.elim
  | .block i c, Q, Q', h, t, w, hq => WP_monoQ c (fun e t w he => by
      cases e with
      | exit j =>
        unfold exBlock at he ⊢
        by_cases hj : j = i
        · simp only [hj, if_true] at he ⊢; exact h _ _ _ he
        · simp only [hj, if_false] at he ⊢; exact h _ _ _ he
      | normal => exact h _ _ _ he
      | ret => exact h _ _ _ he) t w hq
  | .loop c, Q, Q', h, t, w, ⟨J, μ, h0, hr⟩ => ⟨J, μ, h0, fun t w hj => WP_monoQ c (fun e t' w' he => by
      cases e with
      | normal => exact he
      | _ => exact h _ _ _ he) t w (hr t w hj)⟩
/-- A rest of code, from what holds at its beginning. -/
theorem WP_cut {P : Program} {c : C} {Q : Ex → T → World → Prop} {t : T} {w : World} (R : T → World → Prop) (h : WP P c (fun e t w => e = .normal ∧ R t w) t w) (hk : ∀ t w, R t w → Q .normal t w) : WP P c Q t w :=
  WP_monoQ c (fun e t w he => by obtain ⟨rfl, hr⟩ := he; exact hk t w hr) t w h
theorem iteW_cut {P : Program} {v : Value} {a b : C} {Q : Ex → T → World → Prop} {t : T} {w : World} (R : T → World → Prop) (h : iteW P v a b (fun e t w => e = .normal ∧ R t w) t w) (hk : ∀ t w, R t w → Q .normal t w) : iteW P v a b Q t w := by
  unfold iteW asB at h ⊢
  split at h
  · split at h
    · rw [if_pos (by assumption)]; exact WP_cut R h hk
    · rw [if_neg (by assumption)]; exact WP_cut R h hk
  · exact h.elim
theorem Sl.Xix0 {α : Type} [Cell α] {s : Value} {xs : List α} {w : World} (h : Sl w s xs) {k : IntKind} (hi : 0 < xs.length) (P : Program) (d : Option Nat) (l : List D) (Q : T → World → Prop) (t : T) (w' : World) : XW P (.ixs 1 (.c s) (.c (.int k 0))) d l Q t w' = W P Q l (put t d (elP s 0)) w' := h.Xix (k := k) hi P d l Q t w'
theorem Sl.Eix0 {α : Type} [Cell α] {s : Value} {xs : List α} {w : World} {n_ : Nat} {u_ : List Nat} {rs_ : List RN} {es_ : List EN} (h : Sl w s xs) {k : IntKind} (hi : 0 < xs.length) (P : Program) (d : Option Nat) (l : List D) (Q : T → World → Prop) (t : T) (w' : World) : XE P n_ (.ixs 1 (.c s) (.c (.int k 0))) u_ d l Q rs_ es_ t w' = WE P Q l rs_ es_ (put t d (elP s 0)) w' := h.Eix (k := k) hi P d l Q t w'
theorem X_lenS (P : Program) (d : Option Nat) (l : List D) (Q : T → World → Prop) (t : T) (w : World) (a : Option Addr) (n c : Nat) : XW P (.len (.c (.slice a n c))) d l Q t w = W P Q l (put t d (.int .i64 (n : Int))) w := propext Iff.rfl
/-- A slice's header as a cell. -/
def hd : Value → Hd | .slice a n c => ⟨a, n, c⟩ | _ => ⟨none, 0, 0⟩
theorem Sl.hd {α : Type} [Cell α] {w : World} {s : Value} {l : List α} (h : Sl w s l) : Cell.v (Fw.hd s) = s ∧ (Fw.hd s).n = l.length := by
  obtain ⟨a, cap, rfl, _, _⟩ := h.sh
  exact ⟨rfl, rfl⟩
theorem fill1 {α : Type} [Cell α] {w : World} {s1 : Value} {l1 : List α} (h1 : Sl w s1 l1) : fillL (repL [.slice none 0 0] 1) (evp tz [(0, 1, .c s1)]) = some ([Fw.hd s1].map Cell.v) := by
  obtain ⟨_, _, rfl, _, _⟩ := h1.sh; rfl
theorem fill2 {α : Type} [Cell α] {w : World} {s1 s2 : Value} {l1 l2 : List α} (h1 : Sl w s1 l1) (h2 : Sl w s2 l2) : fillL (repL [.slice none 0 0] 2) (evp tz [(0, 1, .c s1), (1, 1, .c s2)]) = some ([Fw.hd s1, Fw.hd s2].map Cell.v) := by
  obtain ⟨_, _, rfl, _, _⟩ := h1.sh; obtain ⟨_, _, rfl, _, _⟩ := h2.sh; rfl
/-- The blocks that came between two worlds stand. -/
def Stays (w w' w2 : World) : Prop := ∀ k, w.heap.size ≤ k → k < w'.heap.size → w2.heap[k]? = w'.heap[k]?
theorem Row.stays {w w' w2 : World} {b : Nat} {cs : List Value} (h : Row w' b cs) (hb : w.heap.size ≤ b) (hs : Stays w w' w2) : Row w2 b cs := row_up h (hs b hb (row_lt h))
theorem Row.Xstn {w : World} {P : Program} {d : Option Nat} {l : List D} {Q : T → World → Prop} {t : T} {b n : Nat} {cs vs : List Value} (h : Row w b cs) (hl : vs.length = n) (hs : ∀ u ∈ vs, scal u = true) (hc : cs.length = n)
    (hk : ∀ w', Row w' b vs → w.grownBy w' (some b) → W P Q l (put t d undef) w') : XW P (.stn n (.c (.pointer (some ⟨b, 0, none⟩))) (.c (.agg vs.toArray))) d l Q t w := by
  refine ⟨hl, hs, cs, rfl, h, by simp; omega, hk _ ?_ (setRow_grown w b _)⟩
  have : splice cs 0 vs = vs := by
    simp only [splice, List.take_zero, List.nil_append, Nat.zero_add]
    rw [List.drop_of_length_le (by omega), List.append_nil]
  rw [this]
  exact setRow_heap_self h
theorem Row.ldn {w : World} {b n : Nat} {vs : List Value} (h : Row w b vs) (hl : vs.length = n) (K : Value → Prop) : ldnK w n (.pointer (some ⟨b, 0, none⟩)) K = K (.agg vs.toArray) := by
  have hr : World.rdL w ⟨b, 0, none⟩ vs := fun j v hj => by
    rw [addr_add0, Nat.zero_add]; exact row_cell h hj
  apply propext
  constructor
  · rintro ⟨us, h1, h2, h3⟩
    have : us = vs := by
      refine List.ext_getElem (by omega) fun j h4 h5 => ?_
      have e1 := h2 j _ (List.getElem?_eq_getElem h4)
      have e2 := hr j _ (List.getElem?_eq_getElem h5)
      rw [e1] at e2
      exact Option.some.inj e2
    subst this
    exact h3
  · intro hk; exact ⟨vs, hl, hr, hk⟩
theorem Row.Xldn {w : World} {P : Program} {d : Option Nat} {l : List D} {Q : T → World → Prop} {t : T} {b n : Nat} {vs : List Value} (h : Row w b vs) (hl : vs.length = n) : XW P (.ldn n (.c (.pointer (some ⟨b, 0, none⟩)))) d l Q t w = W P Q l (put t d (.agg vs.toArray)) w := h.ldn hl (fun v => W P Q l (put t d v) w)
theorem Row.drew {b : Nat} {cs : List Value} (h : Row w b cs) : Row w.drew b cs := h
theorem E_ixa {n sz : Nat} {a : Addr} {k : IntKind} {i : Nat} (hi : i < n) (P : Program) (d : Option Nat) (l : List D) (Q : T → World → Prop) (t : T) (w : World) :
    XE P n_ (.ixa n sz (.c (.pointer (some a))) (.c (.int k (i : Int)))) u_ d l Q rs_ es_ t w = WE P Q l rs_ es_ (put t d (.pointer (some (a.add (i * sz))))) w := by
  apply propext
  constructor
  · rintro ⟨_, h⟩; exact h
  · intro h; exact ⟨⟨by omega, by omega⟩, h⟩
variable {P : Program} {d : Option Nat} {l : List D} {Q : T → World → Prop} {t : T}
theorem E_call {f : FuncId} {a c : Array Value} {ys : List X} (h : CallV P f (a.toList ++ evs tz ys ++ c.toList) w fun v w' => okR P u_ w' rs_ ∧ WE P Q l rs_ ((n_, w) :: es_) (put t d v) w') : XE P n_ (.call (.c (.func (.func f) a c)) ys) u_ d l Q rs_ es_ t w :=
  XE_eff rfl h
theorem E_call0 {f : FuncId} {ys : List X} (h : CallV P f (evs tz ys) w fun v w' => okR P u_ w' rs_ ∧ WE P Q l rs_ ((n_, w) :: es_) (put t d v) w') : XE P n_ (.call (.c (.func (.func f) #[] #[])) ys) u_ d l Q rs_ es_ t w := by
  refine XE_eff rfl ?_
  show CallV P f ([] ++ evs tz ys ++ []) w _
  simpa using h
theorem E_callK {f : Value} {ys : List X} (h : callK P f (evs tz ys) w fun v w' => okR P u_ w' rs_ ∧ WE P Q l rs_ ((n_, w) :: es_) (put t d v) w') : XE P n_ (.call (.c f) ys) u_ d l Q rs_ es_ t w := XE_eff rfl h
theorem Ow.Est {B : Nat} (h : Ow B w s xs) {i : Nat} (hi : i < xs.length) (x : α) (hk : ∀ w', Ow B w' s (xs.set i x) → w.grownBy w' (Fw.blk s) → okR P u_ w' rs_ ∧ WE P Q l rs_ ((n_, w) :: es_) (put t d undef) w') : XE P n_ (.st (.c (elP s i)) (.c (Cell.v x))) u_ d l Q rs_ es_ t w :=
  XE_eff rfl (st_ow h hi x hk)
theorem Row.Est {b : Nat} {cs : List Value} (h : Row w b cs) {o : Nat} (ho : o < cs.length) {v : Value} (hv : scal v = true) (hk : ∀ w', Row w' b (cs.set o v) → w.grownBy w' (some b) → okR P u_ w' rs_ ∧ WE P Q l rs_ ((n_, w) :: es_) (put t d undef) w') :
    XE P n_ (.st (.c (.pointer (some ⟨b, o, none⟩))) (.c v)) u_ d l Q rs_ es_ t w :=
  XE_eff rfl ⟨⟨_, row_cell h (List.getElem?_eq_getElem ho)⟩, row_frozen h o, hv, hk _ (setCell_row h o v) (setCell_grown w _ v)⟩
theorem Ow.Eapp {B : Nat} {e b : Nat} {z x : Value} {m : List α} (h : Ow B w s xs) (hx : Sl w x m) (hBs : B ≤ w.heap.size) (hb : 2 * (xs.length + m.length) * b + 1024 * b ≤ maxBytes) (hn : xs.length + m.length < 4611686018427387904)
    (hk : ∀ s' w', Ow B w' s' (xs ++ m) → w.grownBy w' (Fw.blk s) → Near w s s' → okR P u_ w' rs_ ∧ WE P Q l rs_ ((n_, w) :: es_) (put t d s') w') : XE P n_ (.app e b [z] (.c s) (.c x)) u_ d l Q rs_ es_ t w :=
  XE_eff rfl (app_ow h hx hBs hb hn hk)
theorem Ow.sub0 {B : Nat} (h : Ow B w s xs) {k : Nat} (hk : k ≤ xs.length) : Ow B w (Fw.sub s 0 k) (xs.take k) := by
  rcases h with ⟨rfl, rfl⟩ | ⟨b, cap, rest, rfl, h1, hc, hr⟩
  · obtain rfl : k = 0 := by simpa using hk
    exact Or.inl ⟨rfl, by simp⟩
  · refine Or.inr ⟨b, cap, (xs.drop k).map Cell.v ++ rest, ?_, h1, ?_, ?_⟩
    · simp only [Fw.sub, slV, Nat.sub_zero, Nat.zero_mul, Option.map_some, addr_add0, Nat.add_zero]
      rw [List.length_take, Nat.min_eq_left hk]
      split <;> rfl
    · simp only [List.length_take, List.length_append, List.length_map, List.length_drop]; omega
    · rw [← List.append_assoc, ← List.map_append, List.take_append_drop]
      exact hr
/-- []T{x, ..} -/
theorem bsl_ow {e n : Nat} {z : List Value} {ps : List (Nat × Nat × X)} {zs : List α} {tt : T} {K : Value → World → Prop} (hf : fillL (repL z n) (evp tt ps) = some (zs.map Cell.v)) (hl : zs.length = n)
    (hk : ∀ s' w', Ow w.heap.size w' s' zs → Below w.heap.size w w' → K s' w') : stepI P (.bsl e n z ps) tt w K := by
  have := ow_alloc w zs e
  subst hl
  show match fillL (repL z zs.length) (evp tt ps) with | some cs => _ | none => _
  rw [hf]
  exact hk _ _ this (alloc_below w _)
theorem X_bsl {e n : Nat} {z : List Value} {ps : List (Nat × Nat × X)} {zs : List α} (hf : fillL (repL z n) (evp tz ps) = some (zs.map Cell.v)) (hl : zs.length = n)
    (hk : ∀ s' w', Ow w.heap.size w' s' zs → Below w.heap.size w w' → W P Q l (put t d s') w') : XW P (.bsl e n z ps) d l Q t w := bsl_ow hf hl hk
theorem E_bsl {e n : Nat} {z : List Value} {ps : List (Nat × Nat × X)} {zs : List α} (hf : fillL (repL z n) (evp tz ps) = some (zs.map Cell.v)) (hl : zs.length = n)
    (hk : ∀ s' w', Ow w.heap.size w' s' zs → Below w.heap.size w w' → okR P u_ w' rs_ ∧ WE P Q l rs_ ((n_, w) :: es_) (put t d s') w') : XE P n_ (.bsl e n z ps) u_ d l Q rs_ es_ t w := XE_eff rfl (bsl_ow hf hl hk)
end
end Go.Fw
