import Derived.Test.YtbaljbadlfopgaaFwMW
set_option linter.all false
set_option linter.unusedVariables false
set_option linter.unusedSimpArgs false
namespace Go.Fw
open Go

/-! ## The machine, step by step: what comes later is data and stays shut -/
def atL (t : T) : List X → List X
  | [] => []
  | x :: l => .c (ev t x) :: atL t l
def atO (t : T) : Option X → Option X
  | none => none
  | some x => some (.c (ev t x))
def atP (t : T) : List (Nat × Nat × X) → List (Nat × Nat × X)
  | [] => []
  | (a, b, x) :: l => (a, b, .c (ev t x)) :: atP t l
def I.at (t : T) : I → I
  | .mov x => .mov (.c (ev t x))
  | .pick a b c => .pick (.c (ev t a)) (.c (ev t b)) (.c (ev t c))
  | .bin o x y => .bin o (.c (ev t x)) (.c (ev t y))
  | .eqb o x y => .eqb o (.c (ev t x)) (.c (ev t y))
  | .eqp o x y => .eqp o (.c (ev t x)) (.c (ev t y))
  | .un o x => .un o (.c (ev t x))
  | .cnv k x => .cnv k (.c (ev t x))
  | .ext x i => .ext (.c (ev t x)) i
  | .nil x => .nil (.c (ev t x))
  | .fad o x => .fad o (.c (ev t x))
  | .fld o x => .fld o (.c (ev t x))
  | .fldn o n x => .fldn o n (.c (ev t x))
  | .ixs n x i => .ixs n (.c (ev t x)) (.c (ev t i))
  | .ixa m n x i => .ixa m n (.c (ev t x)) (.c (ev t i))
  | .ixv n x i => .ixv n (.c (ev t x)) (.c (ev t i))
  | .ixvn m n x i => .ixvn m n (.c (ev t x)) (.c (ev t i))
  | .ixt x i => .ixt (.c (ev t x)) (.c (ev t i))
  | .slc n x l h m => .slc n (.c (ev t x)) (atO t l) (atO t h) (atO t m)
  | .sla k n x l h m => .sla k n (.c (ev t x)) (atO t l) (atO t h) (atO t m)
  | .len x => .len (.c (ev t x))
  | .cap x => .cap (.c (ev t x))
  | .mnx b x y => .mnx b (.c (ev t x)) (.c (ev t y))
  | .ld x => .ld (.c (ev t x))
  | .ldn n x => .ldn n (.c (ev t x))
  | .st x y => .st (.c (ev t x)) (.c (ev t y))
  | .stn n x y => .stn n (.c (ev t x)) (.c (ev t y))
  | .alloc e z => .alloc e z
  | .box e x => .box e (.c (ev t x))
  | .bld z ps => .bld z (atP t ps)
  | .bsl e n z ps => .bsl e n z (atP t ps)
  | .mks e b z l c => .mks e b z (.c (ev t l)) (.c (ev t c))
  | .app e b z x y => .app e b z (.c (ev t x)) (.c (ev t y))
  | .apz e b z x y => .apz e b z (.c (ev t x)) (.c (ev t y))
  | .cpy n x y => .cpy n (.c (ev t x)) (.c (ev t y))
  | .call f l => .call (.c (ev t f)) (atL t l)
  | .mkf f a b => .mkf f (atL t a) (atL t b)
  | .mki ty x => .mki ty (.c (ev t x))
  | .mkm => .mkm
  | .mlk k e x i => .mlk k e (.c (ev t x)) (.c (ev t i))
  | .mup k x i v => .mup k (.c (ev t x)) (.c (ev t i)) (.c (ev t v))
  | .isn g n x => .isn g n (.c (ev t x))
  | .s2t x => .s2t (.c (ev t x))
  | .eqt n x y => .eqt n (.c (ev t x)) (.c (ev t y))
  | .clr z x => .clr z (.c (ev t x))
  | .bad => .bad
theorem evs_at (t t' : T) : ∀ l, evs t' (atL t l) = evs t l
  | [] => rfl
  | x :: l => by simp only [atL, evs, evs_at t t' l]; rfl
theorem evo_at (t t' : T) (x : Option X) : evo t' (atO t x) = evo t x := by cases x <;> rfl
theorem evp_at (t t' : T) : ∀ l, evp t' (atP t l) = evp t l
  | [] => rfl
  | (a, b, x) :: l => by simp only [atP, evp, evp_at t t' l]; rfl
theorem stepI_at (P : Program) (i : I) (t t' : T) (w : World) (K : Value → World → Prop) : stepI P (i.at t) t' w K = stepI P i t w K := by
  cases i <;> simp only [I.at, stepI, evs_at, evo_at, evp_at] <;> rfl
theorem at_kind (i : I) (t : T) : (i.at t).kind = i.kind := by cases i <;> rfl

def tz : T := fun _ => undef
/-- One instruction, its operands known; then the rest. -/
def XW (P : Program) (i : I) (d : Option Nat) (l : List D) (Q : T → World → Prop) (t : T) (w : World) : Prop := stepI P i tz w fun v w' => W P Q l (put t d v) w'
theorem lZ101 (P : Program) (Q : T → World → Prop) (t : T) (w : World) : W P Q [] t w = Q t w := propext Iff.rfl
theorem lZ42 (P : Program) (Q : T → World → Prop) (n : Nat) (d : Option Nat) (i : I) (u : List Nat) (l : List D) (t : T) (w : World) :
    W P Q (⟨n, d, none, i, u⟩ :: l) t w = XW P (i.at t) d l Q t w := by
  unfold XW; rw [stepI_at]; exact propext Iff.rfl
theorem lZ26 (P : Program) (Q : T → World → Prop) (n j : Nat) (b : Bool) (d : Option Nat) (i : I) (u : List Nat) (l : List D) (t : T) (w : World) :
    W P Q (⟨n, d, some (j, b), i, u⟩ :: l) t w = @ite Prop (t j = .bool b) (Classical.propDecidable _) (XW P (i.at t) d l Q t w) (W P Q l (put t d undef) w) := by
  unfold XW; rw [stepI_at]
  simp only [W, stepD]
  by_cases h : t j = .bool b
  · rw [gd_true h, if_pos h]
  · rw [gd_false h, if_neg h]

abbrev RN := Nat × I × Value
abbrev EN := Nat × World
def sees (P : Program) (i : I) (w : World) (v : Value) : Prop := stepI P i tz w fun v' _ => v' = v
def WE (P : Program) (Q : T → World → Prop) : List D → List RN → List EN → T → World → Prop
  | [], _, _, t, w => Q t w
  | d :: l, rs, es, t, w =>
    if d.on t then
      stepI P (d.i.at t) tz w fun v w' =>
        match d.i.kind with
        | .pure => WE P Q l rs es (put t d.d v) w'
        | .read => (∀ e ∈ es, e.1 ∈ d.u → sees P (d.i.at t) e.2 v) ∧ WE P Q l ((d.n, d.i.at t, v) :: rs) es (put t d.d v) w'
        | .eff => (∀ r ∈ rs, r.1 ∈ d.u → sees P r.2.1 w' r.2.2) ∧ WE P Q l rs ((d.n, w) :: es) (put t d.d v) w'
    else WE P Q l rs es (put t d.d undef) w
theorem stepD_on {P : Program} {d : D} {t : T} (h : d.on t = true) (w : World) (K : Value → World → Prop) : stepD P d t w K = stepI P (d.i.at t) tz w K := by
  rw [stepI_at]
  unfold stepD
  unfold D.on at h
  cases hg : d.g with
  | none => rfl
  | some jb => obtain ⟨j, b⟩ := jb; rw [hg] at h; simp only at h ⊢; rw [gd_on, h]; simp
theorem stepD_off {P : Program} {d : D} {t : T} (h : d.on t = false) (w : World) (K : Value → World → Prop) : stepD P d t w K = K undef w := by
  unfold stepD
  unfold D.on at h
  cases hg : d.g with
  | none => rw [hg] at h; cases h
  | some jb => obtain ⟨j, b⟩ := jb; rw [hg] at h; simp only at h ⊢; rw [gd_on, h]; simp
theorem WE_WD {P : Program} {Q : T → World → Prop} : ∀ (l : List D) (rs : List RN) (rs' : Logs) (es : Effs) (t : T) (w : World), (∀ r' ∈ rs', ∃ r ∈ rs, r.1 = r'.1 ∧ ∀ w, sees P r.2.1 w r.2.2 → r'.2 w) → WE P Q l rs es t w → WD P Q l rs' es t w
  | [], _, _, _, _, _, _, h => h
  | d :: l, rs, rs', es, t, w, hr, h => by
    rw [WD_cons]
    unfold WE at h
    cases hon : d.on t with
    | false =>
      rw [hon] at h
      simp only [Bool.false_eq_true, if_false] at h
      rw [stepD_off hon]
      have hk : d.kd t = .pure := by unfold D.kd; rw [hon]; simp
      unfold noteOk noteR noteE
      rw [hk]
      exact ⟨trivial, WE_WD l rs rs' es _ w hr h⟩
    | true =>
      rw [hon] at h
      simp only [if_true] at h
      rw [stepD_on hon]
      have hk : d.kd t = d.i.kind := by unfold D.kd; rw [hon]; simp
      refine stepI_mono (fun v w' hv => ?_) h
      unfold noteOk noteR noteE
      rw [hk]
      cases hkk : d.i.kind with
      | pure => rw [hkk] at hv; exact ⟨trivial, WE_WD l rs rs' es _ w' hr hv⟩
      | read =>
        rw [hkk] at hv
        refine ⟨fun e he hm => ?_, WE_WD l _ _ es _ w' ?_ hv.2⟩
        · have := hv.1 e he hm
          unfold Y; rw [stepD_on hon]; exact this
        · intro r' hr'
          rcases List.mem_cons.1 hr' with rfl | hr'
          · refine ⟨_, List.mem_cons_self, rfl, fun w2 h2 => ?_⟩
            show Y P d t w2 v
            unfold Y; rw [stepD_on hon]; exact h2
          · obtain ⟨r, hm, h1, h2⟩ := hr r' hr'
            exact ⟨r, List.mem_cons_of_mem _ hm, h1, h2⟩
      | eff =>
        rw [hkk] at hv
        refine ⟨fun r' hr' hm => ?_, WE_WD l rs rs' _ _ w' hr hv.2⟩
        obtain ⟨r, hrm, h1, h2⟩ := hr r' hr'
        exact h2 w' (hv.1 r hrm (by rw [h1]; exact hm))
/-- One instruction of a region whose order is open. -/
def XE (P : Program) (n : Nat) (i : I) (u : List Nat) (d : Option Nat) (l : List D) (Q : T → World → Prop) (rs : List RN) (es : List EN) (t : T) (w : World) : Prop :=
  stepI P i tz w fun v w' =>
    match i.kind with
    | .pure => WE P Q l rs es (put t d v) w'
    | .read => (∀ e ∈ es, e.1 ∈ u → sees P i e.2 v) ∧ WE P Q l ((n, i, v) :: rs) es (put t d v) w'
    | .eff => (∀ r ∈ rs, r.1 ∈ u → sees P r.2.1 w' r.2.2) ∧ WE P Q l rs ((n, w) :: es) (put t d v) w'
theorem lZ38 (P : Program) (Q : T → World → Prop) (rs : List RN) (es : List EN) (t : T) (w : World) : WE P Q [] rs es t w = Q t w := propext Iff.rfl
theorem lZ28 (P : Program) (Q : T → World → Prop) (n : Nat) (d : Option Nat) (i : I) (u : List Nat) (l : List D) (rs : List RN) (es : List EN) (t : T) (w : World) :
    WE P Q (⟨n, d, none, i, u⟩ :: l) rs es t w = XE P n (i.at t) u d l Q rs es t w := by
  simp only [WE, XE, D.on, if_true, at_kind]
theorem lZ19 (P : Program) (Q : T → World → Prop) (n j : Nat) (b : Bool) (d : Option Nat) (i : I) (u : List Nat) (l : List D) (rs : List RN) (es : List EN) (t : T) (w : World) :
    WE P Q (⟨n, d, some (j, b), i, u⟩ :: l) rs es t w = @ite Prop (t j = .bool b) (Classical.propDecidable _) (XE P n (i.at t) u d l Q rs es t w) (WE P Q l rs es (put t d undef) w) := by
  have hb : gdB (t j) b = true ↔ t j = .bool b := by
    unfold gdB
    cases hv : t j <;> simp
  simp only [XE, at_kind]
  by_cases h : t j = .bool b
  · rw [if_pos h]
    exact if_pos (hb.2 h)
  · rw [if_neg h]
    exact if_neg (fun e => h (hb.1 e))

/-! Code -/
def iteW (P : Program) (v : Value) (a b : C) (Q : Ex → T → World → Prop) (t : T) (w : World) : Prop := asB v fun c => if c then WP P a Q t w else WP P b Q t w
theorem lZ10 (P : Program) (a b : C) (Q : Ex → T → World → Prop) (t : T) (w : World) : iteW P (.bool true) a b Q t w = WP P a Q t w := propext Iff.rfl
theorem lZ7 (P : Program) (a b : C) (Q : Ex → T → World → Prop) (t : T) (w : World) : iteW P (.bool false) a b Q t w = WP P b Q t w := by
  apply propext; simp [iteW, asB]
theorem lZ24 (P : Program) (Q : Ex → T → World → Prop) (t : T) (w : World) : WP P .skip Q t w = Q .normal t w := propext Iff.rfl
theorem lZ54 (P : Program) (Q : Ex → T → World → Prop) (t : T) (w : World) : WP P .ret Q t w = Q .ret t w := propext Iff.rfl
theorem lZ23 (P : Program) (i : Nat) (Q : Ex → T → World → Prop) (t : T) (w : World) : WP P (.exit i) Q t w = Q (.exit i) t w := propext Iff.rfl
theorem lZ30 (P : Program) (l : List D) (Q : Ex → T → World → Prop) (t : T) (w : World) : WP P (.ops l) Q t w = W P (Q .normal) l t w := propext Iff.rfl
theorem WP_dops {P : Program} {l : List D} {Q : Ex → T → World → Prop} {t : T} {w : World} (h : WE P (Q .normal) l [] [] t w.drew) : WP P (.dops l) Q t w :=
  WE_WD l [] [] [] t w.drew (fun r' h => by cases h) h
theorem lZ40 (P : Program) (a b : C) (Q : Ex → T → World → Prop) (t : T) (w : World) : WP P (.seq a b) Q t w = WP P a (exThen (WP P b Q) Q) t w := propext Iff.rfl
theorem lZ52 (P : Program) (x : X) (a b : C) (Q : Ex → T → World → Prop) (t : T) (w : World) : WP P (.ite x a b) Q t w = iteW P (ev t x) a b Q t w := propext Iff.rfl
theorem lZ13 (P : Program) (i : Nat) (c : C) (Q : Ex → T → World → Prop) (t : T) (w : World) : WP P (.block i c) Q t w = WP P c (exBlock i Q) t w := propext Iff.rfl
theorem lZ1 (A : T → World → Prop) (Q : Ex → T → World → Prop) (t : T) (w : World) : exThen A Q .normal t w = A t w := propext Iff.rfl
theorem lZ4 (A : T → World → Prop) (Q : Ex → T → World → Prop) (i : Nat) (t : T) (w : World) : exThen A Q (.exit i) t w = Q (.exit i) t w := propext Iff.rfl
theorem lZ6 (A : T → World → Prop) (Q : Ex → T → World → Prop) (t : T) (w : World) : exThen A Q .ret t w = Q .ret t w := propext Iff.rfl
theorem lZ0 (j : Nat) (Q : Ex → T → World → Prop) (t : T) (w : World) : exBlock j Q .normal t w = Q .normal t w := propext Iff.rfl
theorem lZ2 (j : Nat) (Q : Ex → T → World → Prop) (i : Nat) (t : T) (w : World) : exBlock j Q (.exit i) t w = if i = j then Q .normal t w else Q (.exit i) t w := propext Iff.rfl
theorem lZ3 (j : Nat) (Q : Ex → T → World → Prop) (t : T) (w : World) : exBlock j Q .ret t w = Q .ret t w := propext Iff.rfl
theorem lZ5 (r : List RV) (K : Value → World → Prop) (t : T) (w : World) : endQ r K .normal t w = resK w t r fun r => K (retV r) w := propext Iff.rfl
theorem lZ16 (r : List RV) (K : Value → World → Prop) (t : T) (w : World) : endQ r K .ret t w = resK w t r fun r => K (retV r) w := propext Iff.rfl
theorem lZ32 (w : World) (t : T) (F : List Value → Prop) : resK w t [] F = F [] := propext Iff.rfl
theorem lZ31 (w : World) (t : T) (n : Nat) (l : List RV) (F : List Value → Prop) : resK w t (.t n :: l) F = resK w t l fun r => F (t n :: r) := propext Iff.rfl
theorem lZ25 (w : World) (t : T) (n : Nat) (l : List RV) (F : List Value → Prop) : resK w t (.ce n :: l) F = ldK w (t n) fun v => resK w t l fun r => F (v :: r) := propext Iff.rfl
theorem lZ29 (w : World) (t : T) (a n : Nat) (l : List RV) (F : List Value → Prop) : resK w t (.cn a n :: l) F = ldnK w n (t a) fun v => resK w t l fun r => F (v :: r) := propext Iff.rfl
theorem lZ9 (t : T) (k : Nat) (v : Value) (j : Nat) : upd t k v j = if j = k then v else t j := by unfold upd; exact (Eq.refl _).trans rfl
theorem lZ14 (t : T) (k : Nat) (v : Value) : put t (some k) v = upd t k v := by unfold put; exact (Eq.refl _).trans rfl
theorem lZ17 (t : T) (v : Value) : put t none v = t := by unfold put; exact (Eq.refl _).trans rfl
theorem lZ110 (t : T) (n : Nat) : ev t (.t n) = t n := by unfold ev; exact (Eq.refl _).trans rfl
theorem lZ108 (t : T) (v : Value) : ev t (.c v) = v := by unfold ev; exact (Eq.refl _).trans rfl
theorem lZ18 (args : List Value) (i : Nat) : initT args i = args.getD i undef := by unfold initT; exact (Eq.refl _).trans rfl

/-! Instructions with known operands -/
section
variable (P : Program) (d : Option Nat) (l : List D) (Q : T → World → Prop) (t : T) (w : World)
theorem lZ58 (v : Value) : XW P (.mov (.c v)) d l Q t w = W P Q l (put t d v) w := propext Iff.rfl
theorem lZ45 (b : Bool) (x y : Value) : XW P (.pick (.c (.bool b)) (.c x) (.c y)) d l Q t w = W P Q l (put t d (if b then x else y)) w := propext Iff.rfl
theorem lZ56 (k : IntKind) (a b : Int) : XW P (.bin .add (.c (.int k a)) (.c (.int k b))) d l Q t w = W P Q l (put t d (.int k (k.wrap (a + b)))) w := propext ⟨fun h => h.2, fun h => ⟨rfl, h⟩⟩
theorem lZ73 (k : IntKind) (a b : Int) : XW P (.bin .sub (.c (.int k a)) (.c (.int k b))) d l Q t w = W P Q l (put t d (.int k (k.wrap (a - b)))) w := propext ⟨fun h => h.2, fun h => ⟨rfl, h⟩⟩
theorem lZ81 (k : IntKind) (a b : Int) : XW P (.bin .mul (.c (.int k a)) (.c (.int k b))) d l Q t w = W P Q l (put t d (.int k (k.wrap (a * b)))) w := propext ⟨fun h => h.2, fun h => ⟨rfl, h⟩⟩
theorem X_quo (k : IntKind) (a b : Int) : XW P (.bin .quo (.c (.int k a)) (.c (.int k b))) d l Q t w = (b ≠ 0 ∧ W P Q l (put t d (.int k (k.wrap (a.tdiv b)))) w) := propext ⟨fun h => h.2, fun h => ⟨rfl, h⟩⟩
theorem X_rem (k : IntKind) (a b : Int) : XW P (.bin .rem (.c (.int k a)) (.c (.int k b))) d l Q t w = (b ≠ 0 ∧ W P Q l (put t d (.int k (a.tmod b))) w) := propext ⟨fun h => h.2, fun h => ⟨rfl, h⟩⟩
theorem lZ83 (k : IntKind) (a b : Int) : XW P (.bin .and (.c (.int k a)) (.c (.int k b))) d l Q t w = W P Q l (put t d (.int k (bitsOp .and k a b))) w := propext ⟨fun h => h.2, fun h => ⟨rfl, h⟩⟩
theorem lZ111 (k : IntKind) (a b : Int) : XW P (.bin .or (.c (.int k a)) (.c (.int k b))) d l Q t w = W P Q l (put t d (.int k (bitsOp .or k a b))) w := propext ⟨fun h => h.2, fun h => ⟨rfl, h⟩⟩
theorem lZ65 (k : IntKind) (a b : Int) : XW P (.bin .xor (.c (.int k a)) (.c (.int k b))) d l Q t w = W P Q l (put t d (.int k (bitsOp .xor k a b))) w := propext ⟨fun h => h.2, fun h => ⟨rfl, h⟩⟩
theorem lZ21 (k : IntKind) (a b : Int) : XW P (.bin .andNot (.c (.int k a)) (.c (.int k b))) d l Q t w = W P Q l (put t d (.int k (bitsOp .andNot k a b))) w := propext ⟨fun h => h.2, fun h => ⟨rfl, h⟩⟩
theorem X_shl (k k' : IntKind) (a b : Int) : XW P (.bin .shl (.c (.int k a)) (.c (.int k' b))) d l Q t w = (0 ≤ b ∧ W P Q l (put t d (.int k (shlV k a b))) w) := propext Iff.rfl
theorem X_shr (k k' : IntKind) (a b : Int) : XW P (.bin .shr (.c (.int k a)) (.c (.int k' b))) d l Q t w = (0 ≤ b ∧ W P Q l (put t d (.int k (shrV k a b))) w) := propext Iff.rfl
theorem lZ76 (k : IntKind) (a b : Int) : XW P (.bin .eql (.c (.int k a)) (.c (.int k b))) d l Q t w = W P Q l (put t d (.bool (decide (a = b)))) w := propext ⟨fun h => h.2, fun h => ⟨rfl, h⟩⟩
theorem lZ70 (k : IntKind) (a b : Int) : XW P (.bin .neq (.c (.int k a)) (.c (.int k b))) d l Q t w = W P Q l (put t d (.bool (!decide (a = b)))) w := propext ⟨fun h => h.2, fun h => ⟨rfl, h⟩⟩
theorem lZ107 (k : IntKind) (a b : Int) : XW P (.bin .lss (.c (.int k a)) (.c (.int k b))) d l Q t w = W P Q l (put t d (.bool (decide (a < b)))) w := propext ⟨fun h => h.2, fun h => ⟨rfl, h⟩⟩
theorem lZ66 (k : IntKind) (a b : Int) : XW P (.bin .leq (.c (.int k a)) (.c (.int k b))) d l Q t w = W P Q l (put t d (.bool (decide (a ≤ b)))) w := propext ⟨fun h => h.2, fun h => ⟨rfl, h⟩⟩
theorem lZ74 (k : IntKind) (a b : Int) : XW P (.bin .gtr (.c (.int k a)) (.c (.int k b))) d l Q t w = W P Q l (put t d (.bool (decide (b < a)))) w := propext ⟨fun h => h.2, fun h => ⟨rfl, h⟩⟩
theorem lZ93 (k : IntKind) (a b : Int) : XW P (.bin .geq (.c (.int k a)) (.c (.int k b))) d l Q t w = W P Q l (put t d (.bool (decide (b ≤ a)))) w := propext ⟨fun h => h.2, fun h => ⟨rfl, h⟩⟩
theorem lZ55 (n a b : Bool) : XW P (.eqb n (.c (.bool a)) (.c (.bool b))) d l Q t w = W P Q l (put t d (.bool ((a == b) != n))) w := propext Iff.rfl
theorem lZ98 (n : Bool) (a : Option Addr) : XW P (.eqp n (.c (.pointer a)) (.c (.pointer none))) d l Q t w = W P Q l (put t d (.bool (a.isNone != n))) w := propext ⟨fun h => h.2, fun h => ⟨rfl, h⟩⟩
theorem lZ104 (b : Bool) : XW P (.un .not (.c (.bool b))) d l Q t w = W P Q l (put t d (.bool !b)) w := propext Iff.rfl
theorem lZ68 (k : IntKind) (n : Int) : XW P (.un .neg (.c (.int k n))) d l Q t w = W P Q l (put t d (.int k (k.wrap (0 - n)))) w := propext Iff.rfl
theorem lZ96 (k k' : IntKind) (n : Int) : XW P (.cnv k (.c (.int k' n))) d l Q t w = W P Q l (put t d (.int k (k.wrap n))) w := propext Iff.rfl
theorem lZ79 (i : Nat) (vs : List Value) : XW P (.ext (.c (.tuple vs.toArray)) i) d l Q t w = getK vs i fun v => W P Q l (put t d v) w := propext Iff.rfl
theorem lZ105 (a : Addr) : XW P (.nil (.c (.pointer (some a)))) d l Q t w = W P Q l (put t d (.pointer (some a))) w := propext Iff.rfl
theorem lZ36 (f : FuncId) (a c : Array Value) : XW P (.nil (.c (.func (.func f) a c))) d l Q t w = W P Q l (put t d (.func (.func f) a c)) w := propext Iff.rfl
theorem lZ89 (o : Nat) (a : Addr) : XW P (.fad o (.c (.pointer (some a)))) d l Q t w = W P Q l (put t d (.pointer (some (a.add o)))) w := propext Iff.rfl
theorem lZ94 (o : Nat) (vs : List Value) : XW P (.fld o (.c (.agg vs.toArray))) d l Q t w = getK vs o fun v => W P Q l (put t d v) w := propext Iff.rfl
theorem lZ37 (o n : Nat) (vs : List Value) : XW P (.fldn o n (.c (.agg vs.toArray))) d l Q t w = W P Q l (put t d (.agg ((vs.drop o).take n).toArray)) w := propext Iff.rfl
theorem lZ71 (b : Bool) (k : IntKind) (x y : Int) : XW P (.mnx b (.c (.int k x)) (.c (.int k y))) d l Q t w = W P Q l (put t d (.int k (if b then (if y < x then y else x) else (if y > x then y else x)))) w := propext Iff.rfl
theorem lZ91 (f : FuncId) (a c : List X) : XW P (.mkf f a c) d l Q t w = W P Q l (put t d (.func (.func f) (evs tz a).toArray (evs tz c).toArray)) w := propext Iff.rfl
theorem lZ92 (ty : TypeId) (v : Value) : XW P (.mki ty (.c v)) d l Q t w = W P Q l (put t d (.iface ty v)) w := propext Iff.rfl
theorem lZ50 (n : Bool) (a : Option Addr) (m c : Nat) : XW P (.isn .s n (.c (.slice a m c))) d l Q t w = W P Q l (put t d (.bool (a.isNone != n))) w := propext Iff.rfl
theorem lZ41 (n : Bool) (f : Go.Fn) (a c : Array Value) : XW P (.isn .f n (.c (.func f a c))) d l Q t w = W P Q l (put t d (.bool (false != n))) w := propext Iff.rfl
theorem lZ53 (n : Bool) : XW P (.isn .f n (.c .nilFunc)) d l Q t w = W P Q l (put t d (.bool (true != n))) w := propext Iff.rfl
theorem lZ47 (n : Bool) (ty : TypeId) (v : Value) : XW P (.isn .i n (.c (.iface ty v))) d l Q t w = W P Q l (put t d (.bool (false != n))) w := propext Iff.rfl
theorem lZ49 (n : Bool) : XW P (.isn .i n (.c .nilIface)) d l Q t w = W P Q l (put t d (.bool (true != n))) w := propext Iff.rfl
theorem X_bld (z : List Value) (ps : List (Nat × Nat × X)) : XW P (.bld z ps) d l Q t w = (match fillL z (evp tz ps) with | some cs => W P Q l (put t d (.agg cs.toArray)) w | none => False) := propext Iff.rfl
end
section
variable {P : Program} {d : Option Nat} {l : List D} {Q : T → World → Prop} {t : T} {w : World}
theorem X_call0 {f : FuncId} {xs : List X} (h : CallV P f (evs tz xs) w fun v w' => W P Q l (put t d v) w') : XW P (.call (.c (.func (.func f) #[] #[])) xs) d l Q t w := by
  show CallV P f ([] ++ evs tz xs ++ []) w _
  simpa using h
end

/-! Lists of cells -/
section
variable {α : Type} [Cell α] {s : Value} {xs : List α} {w : World}
theorem Sl.Xlen (h : Sl w s xs) (P : Program) (d : Option Nat) (l : List D) (Q : T → World → Prop) (t : T) (w' : World) : XW P (.len (.c s)) d l Q t w' = W P Q l (put t d (.int .i64 (xs.length : Int))) w' := h.len (fun v => W P Q l (put t d v) w')
theorem Sl.Xix (h : Sl w s xs) {k : IntKind} {i : Nat} (hi : i < xs.length) (P : Program) (d : Option Nat) (l : List D) (Q : T → World → Prop) (t : T) (w' : World) : XW P (.ixs 1 (.c s) (.c (.int k (i : Int)))) d l Q t w' = W P Q l (put t d (elP s i)) w' := h.ix hi (fun v => W P Q l (put t d v) w')
theorem Sl.Xld (h : Sl w s xs) {i : Nat} (hi : i < xs.length) (P : Program) (d : Option Nat) (l : List D) (Q : T → World → Prop) (t : T) : XW P (.ld (.c (elP s i))) d l Q t w = W P Q l (put t d (Cell.v xs[i])) w := h.ld hi (fun v => W P Q l (put t d v) w)
theorem Sl.XslcHi (h : Sl w s xs) {k' : IntKind} {hi : Nat} (h2 : hi ≤ xs.length) (P : Program) (d : Option Nat) (l : List D) (Q : T → World → Prop) (t : T) (w' : World) :
    XW P (.slc 1 (.c s) none (some (.c (.int k' (hi : Int)))) none) d l Q t w' = W P Q l (put t d (Fw.sub s 0 hi)) w' := h.slcHi h2 (fun v => W P Q l (put t d v) w')
variable {P : Program} {d : Option Nat} {l : List D} {Q : T → World → Prop} {t : T} {B : Nat}
theorem Ow.Xst (h : Ow B w s xs) {i : Nat} (hi : i < xs.length) (x : α) (hk : ∀ w', Ow B w' s (xs.set i x) → w.grownBy w' (Fw.blk s) → W P Q l (put t d undef) w') : XW P (.st (.c (elP s i)) (.c (Cell.v x))) d l Q t w := st_ow (K := fun w' => W P Q l (put t d undef) w') h hi x hk
theorem Ow.Xapp {e b : Nat} {z x : Value} {m : List α} (h : Ow B w s xs) (hx : Sl w x m) (hBs : B ≤ w.heap.size) (hb : 2 * (xs.length + m.length) * b + 1024 * b ≤ maxBytes) (hn : xs.length + m.length < 4611686018427387904)
    (hk : ∀ s' w', Ow B w' s' (xs ++ m) → w.grownBy w' (Fw.blk s) → Near w s s' → W P Q l (put t d s') w') : XW P (.app e b [z] (.c s) (.c x)) d l Q t w := app_ow (K := (fun v w' => W P Q l (put t d v) w')) h hx hBs hb hn hk
theorem X_mks {e b : Nat} {x : α} {k k' : IntKind} {n : Nat} (hb : b * n ≤ maxBytes) (hn : n < 9223372036854775808)
    (hk : ∀ s' w', Ow w.heap.size w' s' (List.replicate n x) → RowKit.Below w.heap.size w w' → W P Q l (put t d s') w') : XW P (.mks e b [Cell.v x] (.c (.int k (n : Int))) (.c (.int k' (n : Int)))) d l Q t w := mks_ow (k := k) (k' := k') (K := (fun v w' => W P Q l (put t d v) w')) hb hn hk
theorem X_mks0 {e b : Nat} {x : α} {k k' : IntKind} {n : Nat} (hb : b * n ≤ maxBytes) (hn : n < 9223372036854775808)
    (hk : ∀ s' w', Ow w.heap.size w' s' ([] : List α) → RowKit.Below w.heap.size w w' → W P Q l (put t d s') w') : XW P (.mks e b [Cell.v x] (.c (.int k 0)) (.c (.int k' (n : Int)))) d l Q t w := mks_ow0 (k := k) (k' := k') (K := (fun v w' => W P Q l (put t d v) w')) hb hn hk
end

theorem lZ35 (v : Value) (l : List Value) (K : Value → Prop) : getK (v :: l) 0 K = K v := propext Iff.rfl
theorem lZ11 (v : Value) (l : List Value) (n : Nat) (K : Value → Prop) : getK (v :: l) (n + 1) K = getK l n K := propext Iff.rfl
/-- A loop, by what holds at its head and what grows less. -/
theorem loop_of {P : Program} {c : C} {Q : Ex → T → World → Prop} {t : T} {w : World} (I : T → World → Prop) (μ : T → World → Nat) (h0 : I t w)
    (hr : ∀ t w, I t w → WP P c (exThen (fun t' w' => I t' w' ∧ μ t' w' < μ t w) Q) t w) : WP P (.loop c) Q t w := ⟨I, μ, h0, hr⟩
def toI : Value → Int | .int _ n => n | _ => 0
theorem toI_int (k : IntKind) (n : Int) : toI (.int k n) = n := by unfold toI; exact (Eq.refl _).trans rfl
theorem wrap_id {n : Int} (h0 : -9223372036854775808 ≤ n) (h1 : n < 9223372036854775808) : IntKind.i64.wrap n = n := wrap64_id h0 h1
end Go.Fw
