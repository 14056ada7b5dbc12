import Derived.Test.YtbaljbadlfopgaaFwFW
import Derived.Laws.Pointers
set_option linter.all false
set_option linter.unusedVariables false
set_option linter.unusedSimpArgs false
namespace Go.Fw
open Go
section
variable {P : Program} {w : World}

theorem slice_run {t : TypeId} {e : TypeId} {i : TypeInfo} {lo hi mx : Option Value} {a : Option Addr} {n c l h m : Nat}
    (ht : P.underlying t = some (.slice e)) (hi' : P.info? e = some i) (hb : (Instr.sliceBounds true n c lo hi mx).run P w = .ok (l, h, m) w) :
    (Instr.sliceAt t (.slice a n c) lo hi mx).run P w = .ok (slV a i.size l h m) w := by
  simp [Instr.sliceAt, Instr.slice, rL_underlying ht, hb, rL_size hi', slV]
theorem slicea_run {t : TypeId} {e : TypeId} {i : TypeInfo} {lo hi mx : Option Value} {a : Addr} {n l h m : Nat}
    (ht : P.underlying t = some (.array n e)) (hi' : P.info? e = some i) (hb : (Instr.sliceBounds false n n lo hi mx).run P w = .ok (l, h, m) w) :
    (Instr.sliceAt t (.pointer (some a)) lo hi mx).run P w = .ok (slV (some a) i.size l h m) w := by
  simp [Instr.sliceAt, Instr.sureAddr, rL_underlying ht, hb, rL_size hi', slV]
  split <;> simp_all

theorem eqGuard_int (op : BinOp) (t : TypeId) (x y : Operand) (k k' : IntKind) (a b : Int) : (eqGuard op t x y (.int k a) (.int k' b)).run P w = .ok () w := by
  unfold eqGuard; split <;> rfl
theorem eqGuard_bool (op : BinOp) (t : TypeId) (x y : Operand) (a b : Bool) : (eqGuard op t x y (.bool a) (.bool b)).run P w = .ok () w := by
  unfold eqGuard; split <;> rfl
theorem eqGuard_ptr (op : BinOp) (t : TypeId) (x y : Operand) (a b : Option Addr) : (eqGuard op t x y (.pointer a) (.pointer b)).run P w = .ok () w := by
  unfold eqGuard; split <;> rfl

theorem strs_e {x y : Value} {F : ByteArray → ByteArray → Prop} (h : strs x y F) : ∃ a b, x = .string a ∧ y = .string b ∧ F a b := by
  cases x <;> first | exact h.elim | skip
  cases y <;> first | exact h.elim | skip
  exact ⟨_, _, rfl, rfl, h⟩
theorem nilS_e {y : Operand} (h : nilS y = true) : y = .const (.slice none 0 0) := by
  unfold nilS at h
  split at h
  · rfl
  · cases h
theorem nilF_e {y : Operand} (h : nilF y = true) : y = .const .nilFunc := by
  unfold nilF at h
  split at h
  · rfl
  · cases h
theorem nilI_e {y : Operand} (h : nilI y = true) : y = .const .nilIface := by
  unfold nilI at h
  split at h
  · rfl
  · cases h
def isConstO : Operand → Bool
  | .const _ => true
  | _ => false
theorem eqS_gen (d : Nat) (w : World) (t e : TypeId) (a : Option Addr) (l c : Nat) (h : P.underlying t = some (.slice e)) : (Op.equalIn (d + 1) t (.slice a l c) (.slice none 0 0)).run P w = .ok a.isNone w := by
  cases a <;> simp [Op.equalIn, run_underlying h]
theorem eqS_run (w : World) (t e : TypeId) (a : Option Addr) (l c : Nat) (h : P.underlying t = some (.slice e)) : (Op.equalIn 10000 t (.slice a l c) (.slice none 0 0)).run P w = .ok a.isNone w := eqS_gen 9999 w t e a l c h
theorem eqF_gen (d : Nat) {p1 : Array TypeId} {p2 : Array TypeId} {p3 : Bool} (w : World) (t : TypeId) (f : Fn) (a c : Array Value) (h : P.underlying t = some (.func p1 p2 p3)) : (Op.equalIn (d + 1) t (.func f a c) .nilFunc).run P w = .ok false w := by
  simp [Op.equalIn, run_underlying h]
theorem eqF_run {p1 : Array TypeId} {p2 : Array TypeId} {p3 : Bool} (w : World) (t : TypeId) (f : Fn) (a c : Array Value) (h : P.underlying t = some (.func p1 p2 p3)) : (Op.equalIn 10000 t (.func f a c) .nilFunc).run P w = .ok false w := eqF_gen 9999 w t f a c h
theorem eqF0_gen (d : Nat) {p1 : Array TypeId} {p2 : Array TypeId} {p3 : Bool} (w : World) (t : TypeId) (h : P.underlying t = some (.func p1 p2 p3)) : (Op.equalIn (d + 1) t .nilFunc .nilFunc).run P w = .ok true w := by
  simp [Op.equalIn, run_underlying h]
theorem eqF0_run {p1 : Array TypeId} {p2 : Array TypeId} {p3 : Bool} (w : World) (t : TypeId) (h : P.underlying t = some (.func p1 p2 p3)) : (Op.equalIn 10000 t .nilFunc .nilFunc).run P w = .ok true w := eqF0_gen 9999 w t h
theorem eqI_gen (d : Nat) {ms : Array (String × TypeId)} (w : World) (t : TypeId) (ty : TypeId) (v : Value) (h : P.underlying t = some (.interface ms)) : (Op.equalIn (d + 1) t (.iface ty v) .nilIface).run P w = .ok false w := by
  simp [Op.equalIn, run_underlying h]
theorem eqI_run {ms : Array (String × TypeId)} (w : World) (t : TypeId) (ty : TypeId) (v : Value) (h : P.underlying t = some (.interface ms)) : (Op.equalIn 10000 t (.iface ty v) .nilIface).run P w = .ok false w := eqI_gen 9999 w t ty v h
theorem eqI0_gen (d : Nat) {ms : Array (String × TypeId)} (w : World) (t : TypeId) (h : P.underlying t = some (.interface ms)) : (Op.equalIn (d + 1) t .nilIface .nilIface).run P w = .ok true w := by
  simp [Op.equalIn, run_underlying h]
theorem eqI0_run {ms : Array (String × TypeId)} (w : World) (t : TypeId) (h : P.underlying t = some (.interface ms)) : (Op.equalIn 10000 t .nilIface .nilIface).run P w = .ok true w := eqI0_gen 9999 w t h
def vnil : Value → Bool
  | .slice none 0 0 => true
  | .nilFunc => true
  | .nilIface => true
  | _ => false
def vsmp : Value → Bool
  | .slice _ _ _ => true
  | .nilFunc => true
  | .func _ _ _ => true
  | .iface _ _ => true
  | .nilIface => true
  | _ => false
theorem eqnil_run {x y : Operand} {t : TypeId} {u v : Value} {b : Bool} (hu : vsmp u = true) (hv : vnil v = true) (hc : v = .nilIface → isConstO y = true) (h : (Op.equalIn 10000 t u v).run P w = .ok b w) :
    (do eqGuard .eql t x y u v; binOp .eql t u v : Sem Value).run P w = .ok (.bool (b != false)) w ∧ (do eqGuard .neq t x y u v; binOp .neq t u v : Sem Value).run P w = .ok (.bool (b != true)) w := by
  have hg : ∀ op, (op = .eql ∨ op = .neq) → (eqGuard op t x y u v).run P w = .ok () w := by
    rintro op (rfl | rfl)
    all_goals
      unfold eqGuard
      cases u <;> cases v <;> first | (simp [vsmp] at hu; done) | (simp [vnil] at hv; done) | skip
      all_goals cases y <;> first | (simp; done) | (have h7 := hc rfl; cases h7)
  have h1 : (binOp .eql t u v).run P w = .ok (.bool b) w := by
    cases u <;> cases v <;> first | (simp [vsmp] at hu; done) | (simp [vnil] at hv; done) | (simp only [binOp, Op.equal, Op.maxDepth]; simp [h])
  have h2 : (binOp .neq t u v).run P w = .ok (.bool (!b)) w := by
    cases u <;> cases v <;> first | (simp [vsmp] at hu; done) | (simp [vnil] at hv; done) | (simp only [binOp, Op.equal, Op.maxDepth]; simp [h])
  constructor
  · rw [Sem.run_bind, hg _ (Or.inl rfl), Result.andThen_ok, h1]; cases b <;> rfl
  · rw [Sem.run_bind, hg _ (Or.inr rfl), Result.andThen_ok, h2]; cases b <;> rfl
theorem foldB (ns : List UInt8) : ∀ s : ByteArray, ((ns.map fun b => (b.toNat : Int)).foldl (fun r n => r.push (UInt8.ofNat n.toNat)) s) = ⟨s.data ++ ns.toArray⟩ := by
  induction ns with
  | nil => intro s; simp
  | cons a l ih =>
    intro s
    simp only [List.map_cons, List.foldl_cons]
    rw [ih]
    simp [ByteArray.push]
theorem asM_e {x : Value} {F : Nat → Prop} (h : asM x F) : ∃ r, x = .map (some r) ∧ F r := by
  cases x <;> first | exact h.elim | skip
  case map a =>
    cases a with
    | none => exact h.elim
    | some r => exact ⟨r, rfl, h⟩
theorem cOp_runs (o : Oper) (a : Act) {K : Value → World → Prop} (hn : (cOp P o.op).isCall = false) (h : stepI P (cOp P o.op) (view a.tmps) w K) :
    ∃ v w', K v w' ∧ Runs P (execOp a.eval o) w v w' := by
  obtain ⟨dst, op, type, pos, after, guard⟩ := o
  simp only at h hn
  cases op <;> simp only [cOp] at h hn <;> (try exact h.elim)
  case move x => exact ⟨_, _, h, Or.inl (by simp [execOp, ev_of])⟩
  case assign x => exact ⟨_, _, h, Or.inl (by simp [execOp, ev_of])⟩
  case pick c x y =>
    obtain ⟨b, hb, h⟩ := asB_e h
    rw [ev_of] at hb
    refine ⟨_, _, h, Or.inl ?_⟩
    simp [execOp, hb, asBool, ev_of]
  case alloc t =>
    cases hi : P.info? t with
    | none => rw [hi] at h; exact h.elim
    | some i =>
      rw [hi] at h
      simp only at h
      cases hz : i.zero with
      | none => rw [hz] at h; exact h.elim
      | some z =>
        rw [hz] at h
        exact ⟨_, _, h, runs_v (by simp [Instr.alloc, rL_zero hi hz, newVar, newRow])⟩
  case makeMap t r =>
    cases r with
    | some _ => exact h.elim
    | none => exact ⟨_, _, h, runs_v rfl⟩
  case lookup t m x ok =>
    cases ok
    rotate_left
    · exact h.elim
    simp only at h
    cases ht : P.underlying t with
    | none => rw [ht] at h; exact h.elim
    | some d =>
      rw [ht] at h
      cases d <;> first | exact h.elim | skip
      case map kt et =>
        simp only at h
        cases hk : P.underlying kt with
        | none => rw [hk] at h; exact h.elim
        | some dk =>
          cases hi : P.info? et with
          | none => rw [hk, hi] at h; cases dk <;> exact h.elim
          | some i =>
            rw [hk, hi] at h
            cases dk <;> first | exact h.elim | skip
            case int k =>
              simp only at h
              cases hz : i.zero with
              | none => rw [hz] at h; exact h.elim
              | some z =>
                rw [hz] at h
                cases z <;> first | exact h.elim | skip
                case int e z =>
                  simp only at h
                  split at h
                  · rename_i hz0
                    subst hz0
                    simp only [stepI, mlkK, ev_of] at h
                    obtain ⟨r, hm, h⟩ := asM_e h
                    obtain ⟨k', n, hx, rfl, ms, clock, hb, hks, h⟩ := asI_e h
                    refine ⟨_, _, h, runs_v ?_⟩
                    have hkey : MapKept.IsKey (.int k') (.int k' n) := rfl
                    simp only [hm, hx]
                    rcases MapKept.findNow_spec hkey ms.toList 0 hks with ⟨h1, h2⟩ | ⟨j, e0, h1, h2, h3⟩
                    · simp [Instr.lookup, rL_underlying ht, MapKept.run_getObj_map hb, MapKept.run_checkKey hk hkey, MapKept.run_findKey hk h1, rL_zero hi hz, Result.andThen, mget, h1]
                    · simp [Instr.lookup, rL_underlying ht, MapKept.run_getObj_map hb, MapKept.run_checkKey hk hkey, MapKept.run_findKey hk h1, Result.andThen, mget, h1]
                  · exact h.elim
  case mapUpdate t m x v =>
    cases ht : P.underlying t with
    | none => rw [ht] at h; exact h.elim
    | some d =>
      rw [ht] at h
      cases d <;> first | exact h.elim | skip
      case map kt et =>
        simp only at h
        cases hk : P.underlying kt with
        | none => rw [hk] at h; exact h.elim
        | some dk =>
          rw [hk] at h
          cases dk <;> first | exact h.elim | skip
          case int k =>
            simp only [stepI, mupK, ev_of] at h
            obtain ⟨r, hm, h⟩ := asM_e h
            obtain ⟨k', n, hx, rfl, ms, clock, hb, hks, h⟩ := asI_e h
            refine ⟨_, _, h, runs_u ?_⟩
            have hkey : MapKept.IsKey (.int k') (.int k' n) := rfl
            simp only [hm, hx]
            rcases MapKept.findNow_spec hkey ms.toList 0 hks with ⟨h1, h2⟩ | ⟨j, e0, h1, h2, h3⟩
            · simp [Instr.mapUpdate, rL_underlying ht, MapKept.run_getObj_map hb, MapKept.run_checkKey hk hkey, MapKept.run_findKey hk h1, MapKept.run_setObj_map _ hb, Result.andThen, mset, h1]
            · have hj : ms[j]? = some e0 := by simpa using h2
              simp [Instr.mapUpdate, rL_underlying ht, MapKept.run_getObj_map hb, MapKept.run_checkKey hk hkey, MapKept.run_findKey hk h1, hj, h3, MapKept.run_keyThatStays hkey, MapKept.run_setObj_map _ hb, Result.andThen, mset, h1]
  case box t x => exact ⟨_, _, h, runs_v (by simp [Instr.box, newVar, newRow, ev_of])⟩
  case build t parts =>
    cases hi : P.info? t with
    | none => rw [hi] at h; exact h.elim
    | some i =>
      cases hu : P.underlying t with
      | none => rw [hi, hu] at h; exact h.elim
      | some d =>
        rw [hi, hu] at h
        cases d <;> first | exact h.elim | skip
        case struct fs =>
          simp only at h
          cases hz : i.zero with
          | none => rw [hz] at h; exact h.elim
          | some z =>
            cases hp : placesOf P fs.toList with
            | none => rw [hz, hp] at h; exact h.elim
            | some ps =>
              rw [hz, hp] at h
              simp only at h
              cases hq : partsOf (ps[·]?) parts.toList with
              | none => rw [hq] at h; exact h.elim
              | some l =>
                rw [hq] at h
                simp only [stepI] at h
                cases hf : fillL z.cells.toList (evp (view a.tmps) l) with
                | none => rw [hf] at h; exact h.elim
                | some cs =>
                  rw [hf] at h
                  have := fill_run (ps[·]?) a.eval parts.toList l (view a.tmps) (ev_of a) z.cells cs hq hf
                  refine ⟨_, _, h, runs_v ?_⟩
                  have hfs := placesOf_run (P := P) (w := w) hp
                  simp only [Instr.build, Sem.run_bind, rL_zero hi hz, Result.andThen_ok, rL_underlying hu]
                  simp only [bind_pure_comp] at hfs ⊢
                  rw [hfs]
                  simp [this]
        case array n e =>
          simp only at h
          cases hz : i.zero with
          | none => rw [hz] at h; exact h.elim
          | some z =>
            cases hj : P.info? e with
            | none => rw [hz, hj] at h; exact h.elim
            | some j =>
              rw [hz, hj] at h
              simp only at h
              cases hq : partsOf (fun k => some (k * j.size, j.size)) parts.toList with
              | none => rw [hq] at h; exact h.elim
              | some l =>
                rw [hq] at h
                simp only [stepI] at h
                cases hf : fillL z.cells.toList (evp (view a.tmps) l) with
                | none => rw [hf] at h; exact h.elim
                | some cs =>
                  rw [hf] at h
                  have := fill_run (fun k => some (k * j.size, j.size)) a.eval parts.toList l (view a.tmps) (ev_of a) z.cells cs hq hf
                  refine ⟨_, _, h, runs_v ?_⟩
                  simp [Instr.build, rL_zero hi hz, rL_underlying hu, rL_size hj, this]
  case buildSlice t n parts =>
    cases hu : P.underlying t with
    | none => rw [hu] at h; exact h.elim
    | some d =>
      rw [hu] at h
      cases d <;> first | exact h.elim | skip
      rename_i e
      simp only at h
      cases hi : P.info? e with
      | none => rw [hi] at h; exact h.elim
      | some i =>
        rw [hi] at h
        simp only at h
        cases hz : i.zero with
        | none => rw [hz] at h; exact h.elim
        | some z =>
          cases hq : partsOf (fun k => some (k * i.size, i.size)) parts.toList with
          | none => rw [hz, hq] at h; exact h.elim
          | some l =>
            rw [hz, hq] at h
            simp only at h
            split at h
            · rename_i hc
              simp only [stepI] at h
              cases hf : fillL (repL z.cells.toList n) (evp (view a.tmps) l) with
              | none => rw [hf] at h; exact h.elim
              | some cs =>
                rw [hf] at h
                have := fill_run (fun k => some (k * i.size, i.size)) a.eval parts.toList l (view a.tmps) (ev_of a) (repL z.cells.toList n).toArray cs hq (by simpa using hf)
                refine ⟨_, _, h, runs_v ?_⟩
                have hrep : (Array.range (n * i.size)).map (fun j => z.cells[j % z.cells.size]!) = (repL z.cells.toList n).toArray := by rw [← hc.1]; exact repL_range _ _
                have hlim : ¬ (n * i.size > 2 ^ 24) := by omega
                by_cases h0 : n * i.size = 0
                · have hr0 : repL z.cells.toList n = [] := by
                    apply List.eq_nil_of_length_eq_zero
                    rw [repL_length]; simpa [hc.1] using h0
                  rw [hr0] at this
                  simp only [Instr.buildSlice, Sem.run_bind, rL_underlying hu, rL_size hi, Result.andThen_ok, if_neg hlim]
                  simp [h0, show Array.range 0 = #[] from by simp [Array.range], newRow]
                  simp at this
                  simp [this, newRow]
                · simp only [Instr.buildSlice, Sem.run_bind, rL_underlying hu, rL_size hi, Result.andThen_ok, if_neg hlim, if_neg h0]
                  simp [rL_zero hi hz, hrep]
                  simp at this
                  simp [this, newRow]
            · exact h.elim
  case load t x =>
    cases hu : P.underlying t with
    | none => rw [hu] at h; exact h.elim
    | some d =>
      cases hi : P.info? t with
      | none => rw [hu, hi] at h; exact h.elim
      | some i =>
        rw [hu, hi] at h
        simp only at h
        cases hd : agT d with
        | true =>
          rw [hd] at h
          simp only [if_true, stepI, ev_of] at h
          obtain ⟨v, hk, hr⟩ := loadn_run hu hd hi h
          exact ⟨v, w, hk, runs_v hr⟩
        | false =>
          rw [hd] at h
          simp only [Bool.false_eq_true, if_false, stepI, ev_of] at h
          obtain ⟨v, hk, hr⟩ := load_run hu hd h
          exact ⟨v, w, hk, runs_v hr⟩
  case store t x y =>
    cases hu : P.underlying t with
    | none => rw [hu] at h; exact h.elim
    | some d =>
      cases hi : P.info? t with
      | none => rw [hu, hi] at h; exact h.elim
      | some i =>
        rw [hu, hi] at h
        simp only at h
        cases hd : agT d with
        | true =>
          rw [hd] at h
          simp only [if_true, stepI, ev_of] at h
          obtain ⟨w', hk, hr⟩ := storen_run hi h
          exact ⟨_, w', hk, runs_u hr⟩
        | false =>
          rw [hd] at h
          simp only [Bool.false_eq_true, if_false] at h
          split at h
          · rename_i h1
            simp only [stepI, ev_of] at h
            obtain ⟨w', hk, hr⟩ := store1_run hi h1 h
            exact ⟨_, w', hk, runs_u hr⟩
          · exact h.elim
  case nilCheck x =>
    simp only [stepI, ev_of] at h
    unfold nilK at h
    split at h
    · rename_i p hx
      exact ⟨_, _, h, Or.inl (by simp [execOp, hx])⟩
    · rename_i f u v hx
      exact ⟨_, _, h, Or.inl (by simp [execOp, hx])⟩
    · exact h.elim
  case binOp op t x y ty =>
    cases hu : P.underlying t with
    | none => rw [hu] at h; simp only [cEq, cEq2, hu] at h; exact h.elim
    | some d =>
      rw [hu] at h
      cases d <;> (try simp only [cEq, cEq2, hu] at h) <;> first | exact h.elim | skip
      case bool =>
        cases op <;> first | exact h.elim | skip
        all_goals
          simp only [stepI, ev_of] at h
          obtain ⟨p, q, hx, hy, h⟩ := bools_e h
          refine ⟨_, _, h, runs_v ?_⟩
          rw [hx, hy, Sem.run_bind, eqGuard_bool, Result.andThen_ok]
          first
          | (rw [run_eql_bool w t p q hu]; cases p <;> cases q <;> rfl)
          | (rw [run_neq_bool w t p q hu]; cases p <;> cases q <;> rfl)
      case pointer e =>
        cases op <;> first | exact h.elim | skip
        all_goals
          simp only [stepI, ev_of] at h
          obtain ⟨p, q, hx, hy, rfl, h⟩ := ptrs_e h
          refine ⟨_, _, h, runs_v ?_⟩
          have hpt : P.underlying t = some (.pointer (P.pointee t)) := by rw [hu]; simp [Program.pointee, hu]
          rw [hx, hy, Sem.run_bind, eqGuard_ptr, Result.andThen_ok]
          first
          | (rw [run_eql_pointer_nil w t p hpt]; cases p <;> rfl)
          | (rw [run_neq_pointer_nil w t p hpt]; cases p <;> rfl)
      case int k =>
        simp only [stepI, ev_of] at h
        obtain ⟨k, p, k', q, hx, hy, h⟩ := ints_e h
        obtain ⟨v, hk, hr⟩ := bin_runs (P := P) (w := w) op t k k' p q _ h
        exact ⟨v, w, hk, runs_v (by simp [hx, hy, eqGuard_int, hr])⟩
      case string =>
        cases op <;> first | exact h.elim | skip
        all_goals
          simp only [stepI, ev_of] at h
          obtain ⟨p, q, hx, hy, h⟩ := strs_e h
          refine ⟨_, _, h, runs_v ?_⟩
          rw [hx, hy]
          simp [eqGuard, binOp, Op.stringOp, ByteArray.toList_eq]
      case slice e =>
        split at h
        rotate_left
        · exact h.elim
        rename_i hn
        obtain rfl := nilS_e hn
        have hy : a.eval (.const (.slice none 0 0)) = .slice none 0 0 := rfl
        cases op <;> simp only [cNil] at h <;> first | exact h.elim | skip
        all_goals
          simp only [stepI, ev_of] at h
          cases hx : a.eval x <;> rw [hx] at h <;> first | exact h.elim | skip
          refine ⟨_, _, h, runs_v ?_⟩
          rw [hy, hx]
          first
          | exact (eqnil_run rfl rfl (fun _ => rfl) (eqS_run w t e _ _ _ hu)).1
          | exact (eqnil_run rfl rfl (fun _ => rfl) (eqS_run w t e _ _ _ hu)).2
      case func p1 p2 p3 =>
        split at h
        rotate_left
        · exact h.elim
        rename_i hn
        obtain rfl := nilF_e hn
        have hy : a.eval (.const .nilFunc) = .nilFunc := rfl
        cases op <;> simp only [cNil] at h <;> first | exact h.elim | skip
        all_goals
          simp only [stepI, ev_of] at h
          cases hx : a.eval x <;> rw [hx] at h <;> first | exact h.elim | skip
          all_goals
            refine ⟨_, _, h, runs_v ?_⟩
            rw [hy, hx]
            first
            | exact (eqnil_run rfl rfl (fun _ => rfl) (eqF_run w t _ _ _ hu)).1
            | exact (eqnil_run rfl rfl (fun _ => rfl) (eqF_run w t _ _ _ hu)).2
            | exact (eqnil_run rfl rfl (fun _ => rfl) (eqF0_run w t hu)).1
            | exact (eqnil_run rfl rfl (fun _ => rfl) (eqF0_run w t hu)).2
      case interface e =>
        split at h
        rotate_left
        · exact h.elim
        rename_i hn
        obtain rfl := nilI_e hn
        have hy : a.eval (.const .nilIface) = .nilIface := rfl
        cases op <;> simp only [cNil] at h <;> first | exact h.elim | skip
        all_goals
          simp only [stepI, ev_of] at h
          cases hx : a.eval x <;> rw [hx] at h <;> first | exact h.elim | skip
          all_goals
            refine ⟨_, _, h, runs_v ?_⟩
            rw [hy, hx]
            first
            | exact (eqnil_run rfl rfl (fun _ => rfl) (eqI_run w t _ _ hu)).1
            | exact (eqnil_run rfl rfl (fun _ => rfl) (eqI_run w t _ _ hu)).2
            | exact (eqnil_run rfl rfl (fun _ => rfl) (eqI0_run w t hu)).1
            | exact (eqnil_run rfl rfl (fun _ => rfl) (eqI0_run w t hu)).2
  case unOp op t x =>
    simp only [stepI, ev_of] at h
    obtain ⟨v, hk, hr⟩ := un_run (P := P) (w := w) h
    exact ⟨v, w, hk, runs_v hr⟩
  case convert src dst x =>
    cases hu : P.underlying src with
    | none => rw [hu] at h; exact h.elim
    | some d =>
      cases hu' : P.underlying dst with
      | none => rw [hu, hu'] at h; cases d <;> exact h.elim
      | some d' =>
        rw [hu, hu'] at h
        cases d <;> first | exact h.elim | skip
        all_goals cases d' <;> first | exact h.elim | skip
        case int.int =>
          simp only [stepI, ev_of] at h
          obtain ⟨k, n, hx, h⟩ := asI_e h
          exact ⟨_, _, h, runs_v (by simp [convert, rL_underlying hu, rL_underlying hu', hx, Conv.intToInt])⟩
        case slice.string e =>
          simp only at h
          cases he : P.underlying e with
          | none => rw [he] at h; exact h.elim
          | some de =>
            rw [he] at h
            cases de <;> first | exact h.elim | skip
            rename_i k
            cases k <;> first | exact h.elim | skip
            simp only [stepI, ev_of] at h
            obtain ⟨p, n, c, hx, bs, hl, hr, h⟩ := asS_e h
            refine ⟨_, _, h, runs_v ?_⟩
            rw [hx, run_convert_bytes_string w src dst e p n c hu he hu']
            rcases hr with h0 | ⟨q, rfl, hr⟩
            · have hb : bs = [] := by simpa [u8s] using h0
              subst hb
              have hn : n = 0 := by simpa using hl.symm
              subst hn
              cases p with
              | none => rfl
              | some q => exact run_bytesToString w q 0 c [] (run_loadCells_list (P := P) w q [] (fun j v h => by simp at h))
            · have hld : (loadCells q n).run P w = .ok ((bs.map fun b => (b.toNat : Int)).map (Value.int .u8)).toArray w := by
                have := run_loadCells_list (P := P) w q (u8s bs) hr
                rw [show (u8s bs).length = n by simp [u8s, hl]] at this
                rw [this]
                simp [u8s]
              rw [run_bytesToString w q n c _ hld, foldB]
              simp
  case makeInterface t x =>
    cases hu : P.underlying t with
    | none => rw [hu] at h; exact h.elim
    | some d =>
      rw [hu] at h
      cases d <;> first | exact h.elim | exact ⟨_, _, h, runs_v (by simp [Instr.makeInterface, rL_underlying hu, ev_of])⟩
  case makeFunc fn f c =>
    cases fn <;> first | exact h.elim | skip
    simp only [stepI, evs_of] at h
    refine ⟨_, _, h, runs_v ?_⟩
    have e1 : ∀ x : Array Operand, (List.map a.eval x.toList).toArray = x.map a.eval := fun x => by rw [← Array.toList_map, Array.toArray_toList]
    simp only [Instr.makeFunc, e1]
    rfl
  case makeSlice t l c =>
    cases hu : P.underlying t with
    | none => rw [hu] at h; exact h.elim
    | some d =>
      rw [hu] at h
      cases d <;> first | exact h.elim | skip
      rename_i e
      simp only at h
      cases hi : P.info? e with
      | none => rw [hi] at h; exact h.elim
      | some i =>
        rw [hi] at h
        simp only at h
        cases hz : i.zero with
        | none => rw [hz] at h; exact h.elim
        | some z =>
          rw [hz] at h
          simp only at h
          split at h
          · rename_i hc
            simp only [stepI, ev_of] at h
            obtain ⟨v, w', hk, hr⟩ := make_run hu hi hz hc h
            exact ⟨v, w', hk, runs_v hr⟩
          · exact h.elim
  case slice t x lo hi mx =>
    cases hu : P.underlying t with
    | none => rw [hu] at h; exact h.elim
    | some d =>
      rw [hu] at h
      cases d <;> first | exact h.elim | skip
      case slice e =>
        simp only at h
        cases hi' : P.info? e with
        | none => rw [hi'] at h; exact h.elim
        | some i =>
          rw [hi'] at h
          simp only [stepI, ev_of, evo_of] at h
          obtain ⟨p, n, c, hx, h⟩ := asS_e h
          obtain ⟨l, hh, m, hk, hr⟩ := sbnd_run (P := P) (w := w) (b := true) h
          exact ⟨_, _, hk, runs_v (by rw [hx]; exact slice_run hu hi' hr)⟩
      case array n e =>
        simp only at h
        cases hi' : P.info? e with
        | none => rw [hi'] at h; exact h.elim
        | some i =>
          rw [hi'] at h
          simp only [stepI, ev_of, evo_of] at h
          obtain ⟨p, hx, h⟩ := asP_e h
          obtain ⟨l, hh, m, hk, hr⟩ := sbnd_run (P := P) (w := w) (b := false) h
          exact ⟨_, _, hk, runs_v (by rw [hx]; exact slicea_run hu hi' hr)⟩
  case fieldAddr t x f =>
    cases hu : P.underlying t with
    | none => rw [hu] at h; exact h.elim
    | some d =>
      rw [hu] at h
      cases d <;> first | exact h.elim | skip
      rename_i fs
      simp only at h
      cases hf : fs[f]? with
      | none => rw [hf] at h; exact h.elim
      | some fd =>
        rw [hf] at h
        simp only at h
        cases hi : P.info? fd.type with
        | none => rw [hi] at h; exact h.elim
        | some i =>
          rw [hi] at h
          simp only at h
          split at h
          · exact h.elim
          · rename_i hs
            simp only [stepI, ev_of] at h
            obtain ⟨p, hx, h⟩ := asP_e h
            refine ⟨_, _, h, runs_v ?_⟩
            simp [Instr.fieldAt, rL_underlying hu, hf, hx, Instr.sureAddr, fieldPlace, rL_size hi, hs]
  case field t x f =>
    cases hu : P.underlying t with
    | none => rw [hu] at h; exact h.elim
    | some d =>
      rw [hu] at h
      cases d <;> first | exact h.elim | skip
      rename_i fs
      simp only at h
      cases hf : fs[f]? with
      | none => rw [hf] at h; exact h.elim
      | some fd =>
        rw [hf] at h
        simp only at h
        cases hi : P.info? fd.type with
        | none => rw [hi] at h; cases hq : P.underlying fd.type <;> rw [hq] at h <;> exact h.elim
        | some i =>
          cases hd : P.underlying fd.type with
          | none => rw [hi, hd] at h; exact h.elim
          | some d =>
            rw [hi, hd] at h
            simp only at h
            cases ha : agT d with
            | true =>
              rw [ha] at h
              simp only [if_true, stepI, ev_of] at h
              obtain ⟨cs, hx, h⟩ := asA_e h
              refine ⟨_, _, h, runs_v ?_⟩
              simp only [Instr.field, Sem.run_bind, rL_underlying hu, Result.andThen_ok, hf, hx, asAgg, Sem.run_pure, partn_run cs fd.offset hd ha hi]
            | false =>
              rw [ha] at h
              simp only [Bool.false_eq_true, if_false, stepI, ev_of] at h
              obtain ⟨cs, hx, h⟩ := asA_e h
              obtain ⟨v, hk, hr⟩ := part_run (P := P) (w := w) hd ha h
              refine ⟨v, _, hk, runs_v ?_⟩
              simp [Instr.field, rL_underlying hu, hf, hx, asAgg, hr]
  case indexAddr t x i =>
    cases hu : P.underlying t with
    | none => rw [hu] at h; exact h.elim
    | some d =>
      rw [hu] at h
      cases d <;> first | exact h.elim | skip
      case slice e =>
        simp only at h
        cases hi' : P.info? e with
        | none => rw [hi'] at h; exact h.elim
        | some j =>
          rw [hi'] at h
          simp only [stepI, ev_of] at h
          obtain ⟨p, n, c, hx, h⟩ := asS_e h
          obtain ⟨k, q, hy, ⟨h0, h1⟩, p', hp, h3⟩ := asI_e h
          subst hp
          refine ⟨_, _, h3, runs_v ?_⟩
          simp [Instr.indexAt, hx, hy, asIntOf, rL_underlying hu, rL_size hi', h0, h1]
      case array n e =>
        simp only at h
        cases hi' : P.info? e with
        | none => rw [hi'] at h; exact h.elim
        | some j =>
          rw [hi'] at h
          simp only [stepI, ev_of] at h
          obtain ⟨p, hx, h⟩ := asP_e h
          obtain ⟨k, q, hy, ⟨h0, h1⟩, h⟩ := asI_e h
          refine ⟨_, _, h, runs_v ?_⟩
          simp [Instr.indexAt, hx, hy, asIntOf, rL_underlying hu, rL_size hi', h0, h1, Instr.sureAddr]
  case index t x i =>
    cases hu : P.underlying t with
    | none => rw [hu] at h; exact h.elim
    | some d =>
      rw [hu] at h
      cases d <;> first | exact h.elim | skip
      case string =>
        simp only [strT, if_true, stepI, ev_of] at h
        unfold ixtK at h
        split at h
        · rename_i s hx
          obtain ⟨k, q, hy, ⟨h0, h1⟩, h⟩ := asI_e h
          refine ⟨_, _, h, runs_v ?_⟩
          have hlt : q.toNat < s.size := by omega
          have hs : s[q.toNat]? = some (s.data.getD q.toNat 0) := by
            have : q.toNat < s.data.size := hlt
            rw [show s[q.toNat]? = some s[q.toNat] from getElem?_pos s q.toNat hlt]
            simp only [Array.getD, Option.some.injEq]
            rw [dif_pos this]
            rfl
          simp [Instr.index, hx, hy, asIntOf, rL_underlying hu, h0, hs]
        · exact h.elim
      rename_i n e
      simp only at h
      cases hi : P.info? e with
      | none => rw [hi] at h; cases hq : P.underlying e <;> rw [hq] at h <;> exact h.elim
      | some j =>
        cases hd : P.underlying e with
        | none => rw [hi, hd] at h; exact h.elim
        | some d =>
          rw [hi, hd] at h
          simp only at h
          cases ha : agT d with
          | true =>
            rw [ha] at h
            simp only [if_true, stepI, ev_of] at h
            obtain ⟨cs, hx, h⟩ := asA_e h
            obtain ⟨k, q, hy, ⟨h0, h1⟩, h⟩ := asI_e h
            refine ⟨_, _, h, runs_v ?_⟩
            have := partn_run (P := P) (w := w) cs (q.toNat * j.size) hd ha hi
            simp only [Instr.index, hx, hy, asIntOf, Sem.run_bind, Sem.run_pure, Result.andThen_ok, rL_underlying hu, rL_size hi, h0, h1, true_and, if_true, and_self, this]
          | false =>
            rw [ha] at h
            simp only [Bool.false_eq_true, if_false] at h
            split at h
            · rename_i h1
              simp only [stepI, ev_of] at h
              obtain ⟨cs, hx, h⟩ := asA_e h
              obtain ⟨k, q, hy, ⟨h0, h2⟩, h⟩ := asI_e h
              obtain ⟨v, hk, hr⟩ := part_run (P := P) (w := w) hd ha h
              refine ⟨_, _, hk, runs_v ?_⟩
              simp [Instr.index, hx, hy, asIntOf, rL_underlying hu, rL_size hi, h0, h2, h1, hr]
            · exact h.elim
  case extract x i =>
    simp only [stepI, ev_of] at h
    obtain ⟨cs, hx, h⟩ := asT_e h
    obtain ⟨v, hv, h⟩ := getK_e h
    refine ⟨_, _, h, runs_v ?_⟩
    simp [Instr.extract, hx, show cs[i]? = some v by simpa using hv]
  case call c => exact cCall_runs a hn h
end
end Go.Fw
