import Derived.Test.YtbaljbadlfopgaaFwKW
set_option linter.all false
set_option linter.unusedVariables false
set_option linter.unusedSimpArgs false
namespace Go.Fw
open Go

/-! ## Code -/
def cC (P : Program) (n : Nat) : Code → Option C
  | .skip => some .skip
  | .ret => some .ret
  | .exit id => some (.exit id)
  | .region _ ops draw =>
    let ds := cReg P ops draw
    if dstsOk n ds && (!draw || drOk ops.toList ds) then some (if draw then .dops ds else .ops ds) else none
  | .seq a b => match cC P n a, cC P n b with | some a, some b => some (.seq a b) | _, _ => none
  | .cond c a b => match cC P n a, cC P n b with | some a, some b => some (.ite (X.of c) a b) | _, _ => none
  | .block id c => match cC P n c with | some c => some (.block id c) | none => none
  | .loop c => match cC P n c with | some c => some (.loop c) | none => none
  | _ => none
def lift (n : Nat) (Q : Ex → T → World → Prop) : Exit → Act → World → Prop
  | .normal, a, w => St n a ∧ Q .normal (view a.tmps) w
  | .exit id, a, w => St n a ∧ Q (.exit id) (view a.tmps) w
  | .ret, a, w => St n a ∧ Q .ret (view a.tmps) w
  | _, _, _ => False

theorem WP_sound {P : Program} (hm : P.follows .mixedOrders = true) {n : Nat} : ∀ (code : Code) (c : C), cC P n code = some c → ∀ (Q : Ex → T → World → Prop) (a : Act) (w : World), St n a → WP P c Q (view a.tmps) w → code.wp P (lift n Q) a w := by
  intro code
  induction code with
  | skip => intro c hc Q a w hs h; simp only [cC, Option.some.injEq] at hc; subst hc; exact wp_skip ⟨hs, h⟩
  | ret => intro c hc Q a w hs h; simp only [cC, Option.some.injEq] at hc; subst hc; exact wp_ret ⟨hs, h⟩
  | exit id => intro c hc Q a w hs h; simp only [cC, Option.some.injEq] at hc; subst hc; exact wp_exit ⟨hs, h⟩
  | region id ops draw =>
    intro c hc Q a w hs h
    simp only [cC] at hc
    split at hc
    · rename_i hcond
      simp only [Bool.and_eq_true, Bool.or_eq_true, Bool.not_eq_true'] at hcond
      cases draw with
      | false =>
        simp only [Bool.false_eq_true, if_false, Option.some.injEq] at hc
        subst hc
        have h' : W P (Q .normal) (cReg P ops false) (view a.tmps) w := h
        refine wp_region_list ?_
        exact W_sound (fun _ => []) (fun a w hs hq => ⟨hs, hq⟩) ops.toList 0 a w hs hcond.1 h'
      | true =>
        simp only [if_true, Option.some.injEq] at hc
        subst hc
        have h' : WD P (Q .normal) (cReg P ops true) [] [] (view a.tmps) w.drew := h
        refine wp_region_any hm ?_
        have hall : left (cReg P ops true) (Array.replicate ops.size false) = cReg P ops true := by
          unfold left
          rw [List.filter_eq_self]
          intro d hd
          obtain ⟨m, hm', hd'⟩ := List.mem_iff_getElem.1 hd
          have hg := reg_get P ops (uOf (kindsOf P ops.toList) (ancOf ops.toList)) ops.toList 0 m
          have e : (cReg P ops true)[m]? = some d := by rw [← hd']; exact List.getElem?_eq_getElem hm'
          simp only [cReg, if_true] at e
          rw [e] at hg
          obtain ⟨o, ho, hdo⟩ := Option.map_eq_some_iff.1 hg.symm
          have hlt : m < ops.size := by
            have := (List.getElem?_eq_some_iff.1 ho).1
            simpa using this
          rw [← hdo, cD_n]
          simp [hlt]
        refine wpAny_of_WD (f := uOf (kindsOf P ops.toList) (ancOf ops.toList)) (Qn := Q .normal) (fun a w hs hq => ⟨hs, hq⟩) hcond.1 (hcond.2.resolve_left (by simp)) ops.size _ a _ [] [] (by simp) ?_ ?_ hs ?_
        · intro i hi
          simp only [Array.getD_eq_getD_getElem?, Array.getElem?_replicate] at hi
          split at hi <;> simp at hi
        · refine Nat.le_trans (List.length_filter_le _ _) ?_
          have key : ∀ (f : Nat → List Nat) (l : List Oper) (j : Nat), (cRegFrom P ops f j l).length = l.length := by
            intro f l
            induction l with
            | nil => intro j; rfl
            | cons o l ih => intro j; simp [cRegFrom, ih]
          rw [key]; simp
        · have e : cRegFrom P ops (uOf (kindsOf P ops.toList) (ancOf ops.toList)) 0 ops.toList = cReg P ops true := by simp [cReg]
          rw [e, hall]; exact h'
    · simp at hc
  | seq x y ihx ihy =>
    intro c hc Q a w hs h
    simp only [cC] at hc
    cases hx : cC P n x with
    | none => rw [hx] at hc; simp at hc
    | some cx =>
      cases hy : cC P n y with
      | none => rw [hx, hy] at hc; simp at hc
      | some cy =>
        rw [hx, hy] at hc
        simp only [Option.some.injEq] at hc
        subst hc
        refine wp_seq ?_
        refine wp_mono (ihx cx hx (exThen (WP P cy Q) Q) a w hs h) ?_
        intro e a w he
        cases e with
        | normal => exact ihy cy hy Q a w he.1 he.2
        | exit id => exact he
        | ret => exact he
        | _ => exact he.elim
  | cond cnd x y ihx ihy =>
    intro c hc Q a w hs h
    simp only [cC] at hc
    cases hx : cC P n x with
    | none => rw [hx] at hc; simp at hc
    | some cx =>
      cases hy : cC P n y with
      | none => rw [hx, hy] at hc; simp at hc
      | some cy =>
        rw [hx, hy] at hc
        simp only [Option.some.injEq] at hc
        subst hc
        obtain ⟨b, hb, h⟩ := asB_e h
        rw [ev_of] at hb
        cases b with
        | true => exact wp_cond hb (ihx cx hx Q a w hs h)
        | false => exact wp_cond hb (ihy cy hy Q a w hs h)
  | block id x ihx =>
    intro c hc Q a w hs h
    simp only [cC] at hc
    cases hx : cC P n x with
    | none => rw [hx] at hc; simp at hc
    | some cx =>
      rw [hx] at hc
      simp only [Option.some.injEq] at hc
      subst hc
      refine wp_block (wp_mono (ihx cx hx (exBlock id Q) a w hs h) ?_)
      intro e a w he
      cases e with
      | normal => exact he
      | exit j =>
        obtain ⟨h1, h2⟩ := he
        simp only [exBlock] at h2
        simp only [Exit.inBlock]
        by_cases hj : j = id
        · rw [if_pos hj] at h2 ⊢; exact ⟨h1, h2⟩
        · rw [if_neg hj] at h2 ⊢; exact ⟨h1, h2⟩
      | ret => exact he
      | _ => exact he.elim
  | loop x ihx =>
    intro c hc Q a w hs h
    simp only [cC] at hc
    cases hx : cC P n x with
    | none => rw [hx] at hc; simp at hc
    | some cx =>
      rw [hx] at hc
      simp only [Option.some.injEq] at hc
      subst hc
      obtain ⟨I, μ, h0, hr⟩ := h
      refine wp_loop (fun a w => St n a ∧ I (view a.tmps) w) (fun a w => μ (view a.tmps) w) ⟨hs, h0⟩ ?_
      intro a w ⟨hs, hi⟩
      refine wp_mono (ihx cx hx _ a w hs (hr _ _ hi)) ?_
      intro e a w he
      cases e with
      | normal => exact ⟨⟨he.1, he.2.1⟩, he.2.2⟩
      | exit id => exact he
      | ret => exact he
      | _ => exact he.elim
  | _ => intro c hc; simp [cC] at hc

/-! ## Functions -/
/-- Where a result stands: in a slot, or in memory (one cell, or so many). -/
inductive RV where
  | t (n : Nat)
  | ce (a : Nat)
  | cn (a sz : Nat)
def resOf (P : Program) : List ResultVar → Option (List RV)
  | [] => some []
  | .tmp t :: l => match resOf P l with | some r => some (.t t :: r) | none => none
  | .cell a ty :: l => match resOf P l, P.underlying ty, P.info? ty with
    | some r, some d, some i => if agT d then some (.cn a i.size :: r) else some (.ce a :: r)
    | _, _, _ => none
def cF (P : Program) (fn : Func) : Option (List RV × C) :=
  match fn.body, resOf P fn.results.toList with
  | some b, some r => match cC P fn.ntmps b with
    | some c => some (r, c)
    | none => none
  | _, _ => none
def retV : List Value → Value
  | [v] => v
  | l => .tuple l.toArray
def resK (w : World) (t : T) : List RV → (List Value → Prop) → Prop
  | [], F => F []
  | .t n :: l, F => resK w t l fun r => F (t n :: r)
  | .ce a :: l, F => ldK w (t a) fun v => resK w t l fun r => F (v :: r)
  | .cn a n :: l, F => ldnK w n (t a) fun v => resK w t l fun r => F (v :: r)
def endQ (res : List RV) (K : Value → World → Prop) : Ex → T → World → Prop
  | .normal, t, w => resK w t res fun r => K (retV r) w
  | .ret, t, w => resK w t res fun r => K (retV r) w
  | .exit _, _, _ => False
def initT (args : List Value) : T := fun i => args.getD i undef

def resSem (tmps : Array Value) : ResultVar → Sem Value
  | .tmp t => pure (tmps.getD t undef)
  | .cell a t => do loadVar t (← asAddr (tmps.getD a undef))
theorem results_run (P : Program) {fn : Func} {r : List RV} (h : resOf P fn.results.toList = some r) (tmps : Array Value) (w : World) {F : List Value → Prop} (hF : resK w (view tmps) r F) :
    ∃ l, F l ∧ (results fn tmps).run P w = .ok (retV l) w := by
  have key : ∀ (l : List ResultVar) (r : List RV), resOf P l = some r → ∀ F : List Value → Prop, resK w (view tmps) r F → ∃ vs, F vs ∧ (l.mapM (resSem tmps)).run P w = .ok vs w := by
    intro l
    induction l with
    | nil => intro r h F hF; simp only [resOf, Option.some.injEq] at h; subst h; exact ⟨[], hF, rfl⟩
    | cons v l ih =>
      intro r h F hF
      cases v with
      | cell a ty =>
        simp only [resOf] at h
        cases hr : resOf P l with
        | none => rw [hr] at h; simp at h
        | some r' =>
          cases hu : P.underlying ty with
          | none => rw [hr, hu] at h; simp at h
          | some d =>
            cases hi : P.info? ty with
            | none => rw [hr, hu, hi] at h; simp at h
            | some i =>
              rw [hr, hu, hi] at h
              simp only at h
              cases hd : agT d with
              | true =>
                rw [hd] at h
                simp only [if_true, Option.some.injEq] at h
                subst h
                obtain ⟨p, hp, us, hl, hrd, h2⟩ := asP_e hF
                obtain ⟨vs, h3, h4⟩ := ih r' hr _ h2
                refine ⟨_, h3, ?_⟩
                have hload := run_loadCells_list (P := P) w p us hrd
                rw [hl] at hload
                have hv : tmps.getD a undef = .pointer (some p) := hp
                simp only [List.mapM_cons, resSem, hv, asAddr, Sem.run_bind, Sem.run_pure, Result.andThen_ok, loadVar, rL_agg hu, hd, if_true, rL_size hi, hload, h4]
              | false =>
                rw [hd] at h
                simp only [Bool.false_eq_true, if_false, Option.some.injEq] at h
                subst h
                obtain ⟨p, hp, u, hu', h2⟩ := asP_e hF
                obtain ⟨vs, h3, h4⟩ := ih r' hr _ h2
                refine ⟨_, h3, ?_⟩
                have hv : tmps.getD a undef = .pointer (some p) := hp
                simp only [List.mapM_cons, resSem, hv, asAddr, Sem.run_bind, Sem.run_pure, Result.andThen_ok, loadVar, rL_agg hu, hd, Bool.false_eq_true, if_false, run_load, hu', h4]
      | tmp t =>
        simp only [resOf] at h
        cases hr : resOf P l with
        | none => rw [hr] at h; simp at h
        | some r' =>
          rw [hr] at h
          simp only [Option.some.injEq] at h
          subst h
          obtain ⟨vs, h3, h4⟩ := ih r' hr _ hF
          refine ⟨_, h3, ?_⟩
          simp only [List.mapM_cons, resSem, Sem.run_bind, Sem.run_pure, Result.andThen_ok, h4, view]
  obtain ⟨l, h1, hk⟩ := key _ _ h F hF
  refine ⟨l, h1, ?_⟩
  have e : results fn tmps = (do let vs ← fn.results.mapM (resSem tmps); pure (if h : vs.size = 1 then vs[0] else .tuple vs)) := by
    unfold results
    congr 1
  rw [e, ← Array.toArray_toList (xs := fn.results), List.mapM_toArray]
  simp only [Sem.run_bind, Sem.run_map]
  rw [hk]
  simp only [Result.andThen_ok]
  match l with
  | [] => rfl
  | [v] => rfl
  | a :: b :: l => simp [retV]

theorem call_of {P : Program} (hm : P.follows .mixedOrders = true) {f : FuncId} {fn : Func} {res : List RV} {c : C} {args : List Value} {w : World} {K : Value → World → Prop} (hf : P.funcs[f]? = some fn) (hok : okFn P f = true)
    (hc : cF P fn = some (res, c)) (hn : args.length ≤ fn.ntmps) (h : WP P c (endQ res K) (initT args) w) : CallV P f args w K := by
  refine ⟨hok, ?_⟩
  unfold cF at hc
  cases hb : fn.body with
  | none => rw [hb] at hc; simp at hc
  | some b =>
    cases hr : resOf P fn.results.toList with
    | none => rw [hb, hr] at hc; simp at hc
    | some r =>
      rw [hb, hr] at hc
      simp only at hc
      cases hcc : cC P fn.ntmps b with
      | none => rw [hcc] at hc; simp at hc
      | some c' =>
        rw [hcc] at hc
        simp only [Option.some.injEq, Prod.mk.injEq] at hc
        obtain ⟨rfl, rfl⟩ := hc
        refine calls_of_wp hf hb ?_
        have hv : view (args.toArray ++ Array.replicate (fn.ntmps - args.toArray.size) undef) = initT args := by
          funext i
          simp only [view, initT, Array.getD_eq_getD_getElem?, List.getD_eq_getElem?_getD, Array.getElem?_append, List.size_toArray, List.getElem?_toArray, Array.getElem?_replicate]
          split
          · rfl
          · rename_i hi
            rw [List.getElem?_eq_none (by omega)]
            split <;> rfl
        have hw := WP_sound hm b c' hcc (endQ r K) { tmps := args.toArray ++ Array.replicate (fn.ntmps - args.toArray.size) undef, defers := [] } w ⟨by simp; omega, rfl⟩ (by rw [hv]; exact h)
        refine wp_mono hw ?_
        intro e a w he
        cases e with
        | normal =>
          obtain ⟨l, h1, h2⟩ := results_run P hr a.tmps w he.2
          exact ⟨he.1.defers, _, h2, _, rfl, h1⟩
        | ret =>
          obtain ⟨l, h1, h2⟩ := results_run P hr a.tmps w he.2
          exact ⟨he.1.defers, _, h2, _, rfl, h1⟩
        | exit id => exact he.2.elim
        | _ => exact he.elim
end Go.Fw
