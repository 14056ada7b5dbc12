import Derived.Test.YtbaljbadlfopgaaFwHW
set_option linter.all false
set_option linter.unusedVariables false
set_option linter.unusedSimpArgs false
namespace Go.Fw
open Go

/-! ## One operation, sound -/
theorem enters_ok {P : Program} {f : FuncId} (h : okFn P f = true) (args : Array Value) (w : World) : (callFunc f args).run P w = .ok (.enter f args) w := by
  unfold okFn at h
  cases hf : P.funcs[f]? with
  | none => rw [hf] at h; cases h
  | some fn =>
    rw [hf] at h
    simp only [Bool.and_eq_true, Bool.not_eq_true'] at h
    obtain ⟨hb, hn⟩ := h
    simp [callFunc, program, Sem.run, hf, hn, Option.isNone_iff_eq_none]
    cases hbb : fn.body with
    | none => rw [hbb] at hb; cases hb
    | some c => simpa using hn

theorem wp_of_runs {P : Program} {o : Oper} {a : Act} {w : World} {next : Act → World → Prop} {Q : Exit → Act → World → Prop} {v : Value} {w' : World} (h : Runs P (execOp a.eval o) w v w') (hk : next (a.put o.dst v) w') : o.wp P a w next Q := by
  unfold Oper.wp
  rcases h with h | ⟨rfl, h⟩
  · rw [h, Oper.upon_value]; exact hk
  · rw [h, Oper.upon_skip]; exact hk

theorem step_wp {P : Program} {o : Oper} {a : Act} {w : World} {next : Act → World → Prop} {Q : Exit → Act → World → Prop} {K : Value → World → Prop} (h : stepI P (cOp P o.op) (view a.tmps) w K)
    (hk : ∀ v w', K v w' → next (a.put o.dst v) w') : o.wp P a w next Q := by
  cases hc : (cOp P o.op).isCall with
  | false =>
    obtain ⟨v, w', h1, h2⟩ := cOp_runs o a hc h
    exact wp_of_runs h2 (hk v w' h1)
  | true =>
    have hform : ∃ c f, o.op = .call c ∧ c.callee = .value f := by
      cases ho : o.op with
      | call c =>
        refine ⟨c, ?_⟩
        cases hcc : c.callee with
        | value f => exact ⟨f, rfl, rfl⟩
        | invoke r m => rw [ho] at hc; simp [cOp, cCall, hcc, I.isCall] at hc
        | builtin b =>
          rw [ho] at hc
          simp only [cOp, cCall, hcc] at hc
          repeat' split at hc
          all_goals simp [I.isCall] at hc
      | makeFunc fn f c => rw [ho] at hc; cases fn <;> simp [cOp, I.isCall] at hc
      | makeMap t r => rw [ho] at hc; cases r <;> simp [cOp, I.isCall] at hc
      | lookup t m x b =>
        rw [ho] at hc
        cases b
        · simp only [cOp] at hc
          repeat' split at hc
          all_goals simp [I.isCall] at hc
        · simp [cOp, I.isCall] at hc
      | _ =>
        rw [ho] at hc
        simp only [cOp] at hc
        repeat' split at hc
        all_goals (try simp only [cEq, cEq2, cNil] at hc)
        repeat' split at hc
        all_goals simp [I.isCall] at hc
    obtain ⟨c, f, ho, hcc⟩ := hform
    rw [ho] at h
    simp only [cOp, cCall, hcc, stepI, callK, ev_of, evs_of] at h
    split at h
    · rename_i g first captured hf
      unfold Oper.wp
      have hrun : (execOp a.eval o).run P w = .ok (.enter g (first ++ c.args.map a.eval ++ captured)) w := by
        unfold execOp
        simp only [ho, resolve, hcc, Deferred.ofValue, hf, pure_bind, invoke]
        exact enters_ok h.1 _ _
      rw [hrun, Oper.upon_enter]
      have harr : (first.toList ++ List.map a.eval c.args.toList ++ captured.toList).toArray = first ++ c.args.map a.eval ++ captured := by
        apply Array.ext'
        simp
      have h2 := h.2
      rw [harr] at h2
      refine h2.mono fun e w'' hh => ?_
      obtain ⟨v, rfl, hv⟩ := hh
      exact hk _ _ hv
    · exact h.elim

/-! ## Regions -/
def ancOf (ops : List Oper) : List (List Nat) :=
  ops.foldl (fun acc o => acc ++ [(o.after.toList.filter fun e => Region.binds .any e).flatMap fun e => e.on :: acc.getD e.on []]) []
def gOf (ops : Array Oper) : Option (Nat × Bool) → Option (Option (Nat × Bool))
  | none => some none
  | some (k, want) => match (ops[k]?).bind (·.dst) with
    | some tj => some (some (tj, want))
    | none => none
def cD (P : Program) (ops : Array Oper) (j : Nat) (u : List Nat) (o : Oper) : D :=
  match gOf ops o.guard with
  | some g => ⟨j, o.dst, g, cOp P o.op, u⟩
  | none => ⟨j, o.dst, none, .bad, u⟩
def kindsOf (P : Program) (ops : List Oper) : List Kind := ops.map fun o => (cOp P o.op).kind
def uOf (ks : List Kind) (anc : List (List Nat)) (j : Nat) : List Nat :=
  match ks.getD j .pure with
  | .pure => []
  | .read => (List.range j).filter fun k => ks.getD k .pure = .eff && !(anc.getD j []).contains k
  | .eff => (List.range j).filter fun k => ks.getD k .pure = .read && !(anc.getD j []).contains k
def cRegFrom (P : Program) (ops : Array Oper) (f : Nat → List Nat) : Nat → List Oper → List D
  | _, [] => []
  | j, o :: l => cD P ops j (f j) o :: cRegFrom P ops f (j + 1) l
def cReg (P : Program) (ops : Array Oper) (draw : Bool) : List D :=
  cRegFrom P ops (if draw then uOf (kindsOf P ops.toList) (ancOf ops.toList) else fun _ => []) 0 ops.toList
def D.reads (d : D) : List Nat := (match d.g with | none => [] | some (j, _) => [j]) ++ d.i.reads
def D.ind (y x : D) : Bool :=
  (match y.d with | none => true | some k => !x.reads.contains k && x.d != some k) &&
  (match x.d with | none => true | some k => !y.reads.contains k) &&
  (match y.i.kind, x.i.kind with
   | .eff, .eff => false
   | .read, .eff => x.u.contains y.n
   | .eff, .read => x.u.contains y.n
   | _, _ => true)
def dstsOk (n : Nat) (l : List D) : Bool := l.all fun d => match d.d with | none => true | some k => k < n
def edgesOk (ops : List Oper) : Bool := ops.zipIdx.all fun (o, i) => o.after.all fun e => !Region.binds .any e || decide (e.on < i)
def drOk (ops : List Oper) (l : List D) : Bool :=
  let anc := ancOf ops
  edgesOk ops && l.all fun x => l.all fun y => decide (x.n ≤ y.n) || (anc.getD x.n []).contains y.n || y.ind x

theorem gd_true {v : Value} {want : Bool} {A B : Prop} (h : v = .bool want) : gd v want A B = A := by subst h; simp [gd]
theorem gd_false {v : Value} {want : Bool} {A B : Prop} (h : v ≠ .bool want) : gd v want A B = B := by
  unfold gd
  split
  · rename_i b; rw [if_neg (fun e => h (by rw [e]))]
  · rfl

theorem view_put {a : Act} {n : Nat} (hs : a.tmps.size = n) {dst : Option Nat} (hd : (match dst with | none => true | some k => decide (k < n)) = true) (v : Value) : view (a.put dst v).tmps = put (view a.tmps) dst v := by
  cases dst with
  | none => rfl
  | some k =>
    have hk : k < n := by simpa using hd
    funext j
    simp only [view, Act.put, put, upd, Array.getD_eq_getD_getElem?]
    by_cases hj : j = k
    · subst hj; rw [Array.getElem?_setIfInBounds_self_of_lt (by omega)]; simp
    · rw [Array.getElem?_setIfInBounds_ne (by omega), if_neg hj]
theorem size_put (a : Act) (dst : Option Nat) (v : Value) : (a.put dst v).tmps.size = a.tmps.size := by cases dst <;> simp [Act.put]
theorem defers_put (a : Act) (dst : Option Nat) (v : Value) : (a.put dst v).defers = a.defers := by cases dst <;> rfl

def guardHolds (t : T) : Option (Nat × Bool) → Prop
  | none => True
  | some (tj, want) => t tj = .bool want
theorem wanted_gOf {ops : Array Oper} {o : Oper} {g : Option (Nat × Bool)} (h : gOf ops o.guard = some g) (a : Act) :
    Region.wanted o (yielded ops a.tmps) = true ↔ guardHolds (view a.tmps) g := by
  unfold gOf at h
  cases hg : o.guard with
  | none =>
    rw [hg] at h
    simp only [Option.some.injEq] at h
    subst h
    simp [Region.wanted, hg, guardHolds]
  | some kw =>
    obtain ⟨k, want⟩ := kw
    rw [hg] at h
    simp only at h
    cases hd : (ops[k]?).bind (·.dst) with
    | none => rw [hd] at h; simp at h
    | some tj =>
      rw [hd] at h
      simp only [Option.some.injEq] at h
      subst h
      simp only [Region.wanted, hg, yielded, hd, Option.bind_some, view, Array.getD_eq_getD_getElem?, guardHolds]
      cases ht : a.tmps[tj]? with
      | none => simp [undef]
      | some v => cases v <;> simp

/-- The state of a frame in this reading: so many slots, no deferred calls. -/
structure St (n : Nat) (a : Act) : Prop where
  size : a.tmps.size = n
  defers : a.defers = []
theorem St.put {n : Nat} {a : Act} (h : St n a) (d : Option Nat) (v : Value) : St n (a.put d v) := ⟨(size_put a d v).trans h.size, (defers_put a d v).trans h.defers⟩

theorem D_wp {P : Program} {ops : Array Oper} {o : Oper} {j : Nat} {u : List Nat} {a : Act} {w : World} {next : Act → World → Prop} {Q : Exit → Act → World → Prop} {K : Value → World → Prop}
    (h : stepD P (cD P ops j u o) (view a.tmps) w K) (hk : ∀ v w', K v w' → next (a.put o.dst v) w') :
    if Region.wanted o (yielded ops a.tmps) then o.wp P a w next Q ∨ (o.asks P a w ∧ LetsOut Q) else next (a.put o.dst undef) w := by
  unfold cD at h
  cases hg : gOf ops o.guard with
  | none => rw [hg] at h; exact h.elim
  | some g =>
    rw [hg] at h
    have hw := wanted_gOf hg a
    cases g with
    | none =>
      rw [if_pos (hw.2 trivial)]
      exact Or.inl (step_wp h hk)
    | some tw =>
      obtain ⟨tj, want⟩ := tw
      simp only [stepD] at h
      by_cases he : view a.tmps tj = .bool want
      · rw [if_pos (hw.2 he)]
        rw [gd_true he] at h
        exact Or.inl (step_wp h hk)
      · rw [if_neg (fun e => he (hw.1 e))]
        rw [gd_false he] at h
        exact hk _ _ h
theorem cD_d (P : Program) (ops : Array Oper) (j : Nat) (u : List Nat) (o : Oper) : (cD P ops j u o).d = o.dst := by unfold cD; split <;> rfl
theorem cD_n (P : Program) (ops : Array Oper) (j : Nat) (u : List Nat) (o : Oper) : (cD P ops j u o).n = j := by unfold cD; split <;> rfl

/-- A region that has one order. -/
theorem W_sound {P : Program} {ops : Array Oper} {n : Nat} {Qn : T → World → Prop} {Q : Exit → Act → World → Prop} (f : Nat → List Nat) (hQ : ∀ a w, St n a → Qn (view a.tmps) w → Q .normal a w) :
    ∀ (l : List Oper) (j : Nat) (a : Act) (w : World), St n a → dstsOk n (cRegFrom P ops f j l) = true → W P Qn (cRegFrom P ops f j l) (view a.tmps) w → wpList P ops Q l a w
  | [], j, a, w, hs, _, h => hQ a w hs h
  | o :: l, j, a, w, hs, hd, h => by
    simp only [cRegFrom, dstsOk, List.all_cons, Bool.and_eq_true] at hd
    simp only [cRegFrom, W] at h
    have hdo := hd.1
    rw [cD_d] at hdo
    refine D_wp h fun v w' hk => ?_
    rw [cD_d] at hk
    rw [← view_put hs.size hdo] at hk
    exact W_sound f hQ l (j + 1) _ w' (hs.put _ _) hd.2 hk
end Go.Fw
