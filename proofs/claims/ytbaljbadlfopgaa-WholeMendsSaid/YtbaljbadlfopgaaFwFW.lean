import Derived.Test.YtbaljbadlfopgaaFwEW
set_option linter.all false
set_option linter.unusedVariables false
set_option linter.unusedSimpArgs false
namespace Go.Fw
open Go
section
variable {P : Program} {w : World}

theorem part_run {t : TypeId} {d : TypeDesc} {cs : Array Value} {off : Nat} {K : Value → Prop} (ht : P.underlying t = some d) (hd : agT d = false) (h : getK cs.toList off K) :
    ∃ v, K v ∧ (part t cs off).run P w = .ok v w := by
  obtain ⟨v, hv, h⟩ := getK_e h
  exact ⟨v, h, by simp [part, rL_agg ht, hd, show cs[off]? = some v by simpa using hv]⟩
theorem partn_run {t : TypeId} {d : TypeDesc} {i : TypeInfo} (cs : Array Value) (off : Nat) (ht : P.underlying t = some d) (hd : agT d = true) (hi : P.info? t = some i) :
    (part t cs off).run P w = .ok (.agg ((cs.toList.drop off).take i.size).toArray) w := by
  simp [part, rL_agg ht, hd, rL_size hi]
  apply Array.ext'
  simp [List.take_drop]
theorem un_run {op : UnOp} {x : Value} {K : Value → Prop} (h : unK op x K) : ∃ v, K v ∧ (Op.unary op x).run P w = .ok v w := by
  cases op with
  | not => cases x <;> first | exact h.elim | exact ⟨_, h, by simp [Op.unary]⟩
  | neg => cases x <;> first | exact h.elim | exact ⟨_, h, by simp [Op.unary, Op.intArith]⟩
  | _ => exact h.elim

theorem mnx_run (mn : Bool) (ts : Array TypeId) (ty : TypeId) (k k' : IntKind) (a b : Int) :
    (if mn then Builtin.min_ ts ty #[.int k a, .int k' b] else Builtin.max_ ts ty #[.int k a, .int k' b]).run P w = .ok (.int k (if mn then (if b < a then b else a) else (if b > a then b else a))) w := by
  cases mn <;> simp [Builtin.min_, Builtin.max_, Builtin.min2, Builtin.max2]

def I.isCall : I → Bool
  | .call .. => true
  | _ => false

theorem cCall_runs {c : Call} {ty : TypeId} (a : Act) {K : Value → World → Prop} (hn : (cCall P c).isCall = false) (h : stepI P (cCall P c) (view a.tmps) w K) :
    ∃ v w', K v w' ∧ Runs P (do let d ← resolve a.eval c ty; invoke d.target d.args) w v w' := by
  obtain ⟨callee, ⟨args⟩, ⟨argTypes⟩⟩ := c
  cases callee with
  | value f => simp [cCall, I.isCall] at hn
  | invoke r m => exact h.elim
  | builtin b =>
    simp only [cCall] at h hn
    have key : ∀ (s : Sem Value) v w', s.run P w = .ok v w' → builtin b argTypes.toArray ty (args.toArray.map fun | .const _ => true | _ => false) (args.toArray.map a.eval) = (do pure (.value (← s))) →
        Runs P (do let d ← resolve a.eval ⟨.builtin b, args.toArray, argTypes.toArray⟩ ty; invoke d.target d.args) w v w' := by
      intro s v w' hs hb
      left
      have e : (do let d ← resolve a.eval ⟨.builtin b, args.toArray, argTypes.toArray⟩ ty; invoke d.target d.args : Sem Next) = builtin b argTypes.toArray ty (args.toArray.map fun | .const _ => true | _ => false) (args.toArray.map a.eval) := rfl
      rw [e, hb]
      simp [hs]
    split at h
    · rename_i x t r
      cases hu : P.underlying t with
      | none => rw [hu] at h; exact h.elim
      | some d =>
        rw [hu] at h
        cases d <;> first | exact h.elim | skip
        case slice e =>
          obtain ⟨p, n, c, hx, h⟩ := asS_e h
          rw [ev_of] at hx
          exact ⟨_, _, h, key _ _ _ (by simp [Builtin.len_, hx, rL_underlying hu, goInt]) rfl⟩
        case array n e =>
          exact ⟨_, _, h, key _ _ _ (by simp [Builtin.len_, rL_underlying hu, goInt, ev]) rfl⟩
    · rename_i x t r
      cases hu : P.underlying t with
      | none => rw [hu] at h; exact h.elim
      | some d =>
        rw [hu] at h
        cases d <;> first | exact h.elim | skip
        case slice e =>
          obtain ⟨p, n, c, hx, h⟩ := asS_e h
          rw [ev_of] at hx
          exact ⟨_, _, h, key _ _ _ (by simp [Builtin.cap_, hx, rL_underlying hu, goInt]) rfl⟩
    · rename_i x y t u
      cases hu : P.underlying t with
      | none => rw [hu] at h; exact h.elim
      | some d =>
        cases hu' : P.underlying u with
        | none => rw [hu, hu'] at h; cases d <;> exact h.elim
        | some d' =>
          rw [hu, hu'] at h
          cases d <;> first | exact h.elim | skip
          cases d' <;> first | exact h.elim | skip
          case slice.slice e e' =>
            simp only at h
            cases hi : P.info? e with
            | none => rw [hi] at h; exact h.elim
            | some i =>
              rw [hi] at h
              simp only at h
              cases hz : i.zero with
              | none => rw [hz] at h; exact h.elim
              | some z =>
                rw [hz] at h
                simp only at h
                split at h
                · rename_i hc
                  simp only [stepI, ev_of] at h
                  obtain ⟨v, w', hk, hr⟩ := append_run (ty := ty) hu hu' hi hz hc.1 h
                  exact ⟨v, w', hk, key _ _ _ hr (by simp [builtin])⟩
                · exact h.elim
          case slice.int e ik =>
            simp only at h
            cases hi : P.info? e with
            | none => rw [hi] at h; exact h.elim
            | some i =>
              rw [hi] at h
              simp only at h
              cases hz : i.zero with
              | none => rw [hz] at h; exact h.elim
              | some z =>
                rw [hz] at h
                simp only at h
                split at h
                · rename_i hc
                  simp only [stepI, ev_of] at h
                  obtain ⟨v, w', hk, hr⟩ := append_zrun (ty := ty) hu hu' hi hz hc.1 h
                  exact ⟨v, w', hk, key _ _ _ hr (by simp [builtin])⟩
                · exact h.elim
    · rename_i x y t r
      cases hu : P.underlying t with
      | none => rw [hu] at h; exact h.elim
      | some d =>
        rw [hu] at h
        cases d <;> first | exact h.elim | skip
        rename_i e
        simp only at h
        cases hi : P.info? e with
        | none => rw [hi] at h; exact h.elim
        | some i =>
          rw [hi] at h
          simp only [stepI, ev_of] at h
          obtain ⟨v, w', hk, hr⟩ := copy_run (ts := (t :: r).toArray) (ty := ty) (by simp) hu hi h
          exact ⟨v, w', hk, key _ _ _ hr (by simp [builtin])⟩
    · rename_i x t r
      cases hu : P.underlying t with
      | none => rw [hu] at h; exact h.elim
      | some d =>
        rw [hu] at h
        cases d <;> first | exact h.elim | skip
        rename_i e
        simp only at h
        cases hi : P.info? e with
        | none => rw [hi] at h; exact h.elim
        | some i =>
          rw [hi] at h
          simp only at h
          cases hz : i.zero with
          | none => rw [hz] at h; exact h.elim
          | some z =>
            rw [hz] at h
            simp only [stepI, ev_of] at h
            obtain ⟨v, w', hk, hr⟩ := clear_run (ts := (t :: r).toArray) (ty := ty) (by simp) hu hi hz h
            exact ⟨v, w', hk, key _ _ _ hr (by simp [builtin])⟩
    · rename_i x y
      simp only [stepI, ev_of] at h
      obtain ⟨k, n, k', m, hx, hy, h⟩ := ints_e h
      have := mnx_run (P := P) (w := w) true argTypes.toArray ty k k' n m
      simp only [if_true] at this h
      exact ⟨_, _, h, key (Builtin.min_ argTypes.toArray ty #[a.eval x, a.eval y]) _ _ (by rw [hx, hy]; exact this) (by simp [builtin])⟩
    · rename_i x y
      simp only [stepI, ev_of] at h
      obtain ⟨k, n, k', m, hx, hy, h⟩ := ints_e h
      have := mnx_run (P := P) (w := w) false argTypes.toArray ty k k' n m
      simp only [if_false, Bool.false_eq_true] at this h
      exact ⟨_, _, h, key (Builtin.max_ argTypes.toArray ty #[a.eval x, a.eval y]) _ _ (by rw [hx, hy]; exact this) (by simp [builtin])⟩
    · exact h.elim
end
end Go.Fw
