import Derived.Test.YtbaljbadlfopgaaFwAW
set_option linter.all false
set_option linter.unusedVariables false
set_option linter.unusedSimpArgs false
namespace Go.Fw
open Go

/-! ## From the program's operations to instructions -/
def agT : TypeDesc → Bool
  | .struct _ | .array _ _ => true
  | _ => false
def strT : TypeDesc → Bool
  | .string => true
  | _ => false
def partsOf (place : Nat → Option (Nat × Nat)) : List (Nat × Operand) → Option (List (Nat × Nat × X))
  | [] => some []
  | (i, x) :: l => match place i, partsOf place l with
    | some (o, n), some r => some ((o, n, X.of x) :: r)
    | _, _ => none
def placesOf (P : Program) (fs : List Field) : Option (List (Nat × Nat)) := fs.mapM fun f => (P.info? f.type).map fun i => (f.offset, i.size)
def nilS : Operand → Bool
  | .const (.slice none 0 0) => true
  | _ => false
def nilF : Operand → Bool
  | .const .nilFunc => true
  | _ => false
def nilI : Operand → Bool
  | .const .nilIface => true
  | _ => false
def cNil (tag : NT) (op : BinOp) (x : Operand) : I := match op with | .eql => .isn tag false (X.of x) | .neq => .isn tag true (X.of x) | _ => .bad
def cEq2 (P : Program) (op : BinOp) (t : TypeId) (x y : Operand) : I := match P.underlying t with
  | some (.func ..) => if nilF y then cNil .f op x else .bad
  | some (.interface _) => if nilI y then cNil .i op x else .bad
  | _ => .bad
def cEq (P : Program) (op : BinOp) (t : TypeId) (x y : Operand) : I := match P.underlying t with
  | some .string => (match op with | .eql => .eqt false (X.of x) (X.of y) | .neq => .eqt true (X.of x) (X.of y) | _ => .bad)
  | some (.slice _) => if nilS y then cNil .s op x else .bad
  | _ => cEq2 P op t x y
def cCall (P : Program) (c : Call) : I :=
  match c.callee with
  | .value f => .call (X.of f) (c.args.toList.map X.of)
  | .invoke _ _ => .bad
  | .builtin b =>
    match b, c.args.toList, c.argTypes.toList with
    | .len, [x], t :: _ => (match P.underlying t with | some (.slice _) => .len (X.of x) | some (.array n _) => .mov (.c (.int .i64 n)) | _ => .bad)
    | .cap, [x], t :: _ => (match P.underlying t with | some (.slice _) => .cap (X.of x) | _ => .bad)
    | .append, [x, y], [t, u] => (match P.underlying t, P.underlying u with
      | some (.slice e), some (.slice _) => (match P.info? e with
        | some i => (match i.zero with
          | some z => if z.cells.size = i.size ∧ 0 < i.bytes then .app e i.bytes z.cells.toList (X.of x) (X.of y) else .bad
          | none => .bad)
        | none => .bad)
      | some (.slice e), some (.int _) => (match P.info? e with
        | some i => (match i.zero with
          | some z => if z.cells.size = i.size ∧ 0 < i.bytes then .apz e i.bytes z.cells.toList (X.of x) (X.of y) else .bad
          | none => .bad)
        | none => .bad)
      | _, _ => .bad)
    | .copy, [x, y], t :: _ => (match P.underlying t with
      | some (.slice e) => (match P.info? e with | some i => .cpy i.size (X.of x) (X.of y) | none => .bad)
      | _ => .bad)
    | .clear, [x], t :: _ => (match P.underlying t with
      | some (.slice e) => (match P.info? e with
        | some i => (match i.zero with | some z => .clr z.cells.toList (X.of x) | none => .bad)
        | none => .bad)
      | _ => .bad)
    | .min, [x, y], _ => .mnx true (X.of x) (X.of y)
    | .max, [x, y], _ => .mnx false (X.of x) (X.of y)
    | _, _, _ => .bad
def cOp (P : Program) (o : Op) : I :=
  match o with
  | .move x | .assign x => .mov (X.of x)
  | .pick c a b => .pick (X.of c) (X.of a) (X.of b)
  | .alloc t => (match P.info? t with | some i => (match i.zero with | some z => .alloc t z.cells.toList | none => .bad) | none => .bad)
  | .box t x => .box t (X.of x)
  | .build t parts => (match P.info? t, P.underlying t with
    | some i, some (.struct fs) => (match i.zero, placesOf P fs.toList with
      | some z, some ps => (match partsOf (ps[·]?) parts.toList with | some l => .bld z.cells.toList l | none => .bad)
      | _, _ => .bad)
    | some i, some (.array _ e) => (match i.zero, P.info? e with
      | some z, some j => (match partsOf (fun k => some (k * j.size, j.size)) parts.toList with | some l => .bld z.cells.toList l | none => .bad)
      | _, _ => .bad)
    | _, _ => .bad)
  | .buildSlice t len parts => (match P.underlying t with
    | some (.slice e) => (match P.info? e with
      | some i => (match i.zero, partsOf (fun k => some (k * i.size, i.size)) parts.toList with
        | some z, some l => if z.cells.size = i.size ∧ len * i.size ≤ 2 ^ 24 then .bsl e len z.cells.toList l else .bad
        | _, _ => .bad)
      | none => .bad)
    | _ => .bad)
  | .load t a => (match P.underlying t, P.info? t with | some d, some i => if agT d then .ldn i.size (X.of a) else .ld (X.of a) | _, _ => .bad)
  | .store t a v => (match P.underlying t, P.info? t with | some d, some i => if agT d then .stn i.size (X.of a) (X.of v) else if i.size = 1 then .st (X.of a) (X.of v) else .bad | _, _ => .bad)
  | .nilCheck x => .nil (X.of x)
  | .binOp op t x y _ => (match P.underlying t with
    | some .bool => (match op with | .eql => .eqb false (X.of x) (X.of y) | .neq => .eqb true (X.of x) (X.of y) | _ => .bad)
    | some (.pointer _) => (match op with | .eql => .eqp false (X.of x) (X.of y) | .neq => .eqp true (X.of x) (X.of y) | _ => .bad)
    | some (.int _) => .bin op (X.of x) (X.of y)
    | _ => cEq P op t x y)
  | .unOp op _ x => .un op (X.of x)
  | .convert src dst x => (match P.underlying src, P.underlying dst with
    | some (.int _), some (.int k) => .cnv k (X.of x)
    | some (.slice e), some .string => (match P.underlying e with | some (.int .u8) => .s2t (X.of x) | _ => .bad)
    | _, _ => .bad)
  | .makeSlice t l c => (match P.underlying t with
    | some (.slice e) => (match P.info? e with
      | some i => (match i.zero with | some z => if z.cells.size = i.size then .mks e i.bytes z.cells.toList (X.of l) (X.of c) else .bad | none => .bad)
      | none => .bad)
    | _ => .bad)
  | .slice t x lo hi mx => (match P.underlying t with
    | some (.slice e) => (match P.info? e with | some i => .slc i.size (X.of x) (lo.map X.of) (hi.map X.of) (mx.map X.of) | none => .bad)
    | some (.array n e) => (match P.info? e with | some i => .sla n i.size (X.of x) (lo.map X.of) (hi.map X.of) (mx.map X.of) | none => .bad)
    | _ => .bad)
  | .fieldAddr s x f => (match P.underlying s with
    | some (.struct fs) => (match fs[f]? with
      | some fd => (match P.info? fd.type with | some i => if i.size = 0 then .bad else .fad fd.offset (X.of x) | none => .bad)
      | none => .bad)
    | _ => .bad)
  | .field t x f => (match P.underlying t with
    | some (.struct fs) => (match fs[f]? with
      | some fd => (match P.underlying fd.type, P.info? fd.type with | some d, some i => if agT d then .fldn fd.offset i.size (X.of x) else .fld fd.offset (X.of x) | _, _ => .bad)
      | none => .bad)
    | _ => .bad)
  | .indexAddr t x i => (match P.underlying t with
    | some (.slice e) => (match P.info? e with | some j => .ixs j.size (X.of x) (X.of i) | none => .bad)
    | some (.array n e) => (match P.info? e with | some j => .ixa n j.size (X.of x) (X.of i) | none => .bad)
    | _ => .bad)
  | .index t x i => (match P.underlying t with
    | some (.array n e) => (match P.underlying e, P.info? e with
      | some d, some j => if agT d then .ixvn n j.size (X.of x) (X.of i) else if j.size = 1 then .ixv n (X.of x) (X.of i) else .bad
      | _, _ => .bad)
    | some d => if strT d then .ixt (X.of x) (X.of i) else .bad
    | none => .bad)
  | .extract x i => .ext (X.of x) i
  | .makeInterface t x => (match P.underlying t with | some (.interface _) => .bad | some _ => .mki t (X.of x) | none => .bad)
  | .makeFunc (.func f) a b => .mkf f (a.toList.map X.of) (b.toList.map X.of)
  | .makeMap _ none => .mkm
  | .lookup t m x false => (match P.underlying t with
    | some (.map kt et) => (match P.underlying kt, P.info? et with
      | some (.int k), some i => (match i.zero with | some (.int e z) => if z = 0 then .mlk k e (X.of m) (X.of x) else .bad | _ => .bad)
      | _, _ => .bad)
    | _ => .bad)
  | .mapUpdate t m k v => (match P.underlying t with
    | some (.map kt _) => (match P.underlying kt with | some (.int q) => .mup q (X.of m) (X.of k) (X.of v) | _ => .bad)
    | _ => .bad)
  | .call c => cCall P c
  | _ => .bad

theorem ev_of (a : Act) (x : Operand) : ev (view a.tmps) (X.of x) = a.eval x := by cases x <;> rfl
theorem evs_of (a : Act) (l : List Operand) : evs (view a.tmps) (l.map X.of) = l.map a.eval := by
  induction l with
  | nil => rfl
  | cons x l ih => simp [evs, ev_of, ih]
theorem evo_of (a : Act) (x : Option Operand) : evo (view a.tmps) (x.map X.of) = x.map a.eval := by cases x <;> simp [evo, ev_of]

section
variable {P : Program} {w : World}

/-- The operation runs to v in w'. -/
def Runs (P : Program) (s : Sem Next) (w : World) (v : Value) (w' : World) : Prop := s.run P w = .ok (.value v) w' ∨ (v = undef ∧ s.run P w = .ok .skip w')
theorem runs_v {s : Sem Value} {v : Value} {w' : World} (h : s.run P w = .ok v w') : Runs P (do pure (.value (← s))) w v w' := by
  left; simp [h]
theorem runs_u {s : Sem Unit} {w' : World} (h : s.run P w = .ok () w') : Runs P (do s; pure .skip) w undef w' := by
  right; exact ⟨rfl, by simp [h]⟩

theorem rL_underlying {t : TypeId} {d : TypeDesc} (h : P.underlying t = some d) : (underlying t).run P w = .ok d w := run_underlying h w
theorem rL_info {t : TypeId} {i : TypeInfo} (h : P.info? t = some i) : (typeInfo t).run P w = .ok i w := by simp [typeInfo, h]
theorem rL_size {t : TypeId} {i : TypeInfo} (h : P.info? t = some i) : (sizeOf t).run P w = .ok i.size w := by simp [sizeOf, rL_info h]
theorem rL_zero {t : TypeId} {i : TypeInfo} {z : Value} (h : P.info? t = some i) (hz : i.zero = some z) : (zeroValue t).run P w = .ok z w := by simp [zeroValue, rL_info h, hz]
theorem rL_agg {t : TypeId} {d : TypeDesc} (h : P.underlying t = some d) : (isAgg t).run P w = .ok (agT d) w := by
  simp only [isAgg, Sem.run_bind, rL_underlying h, Result.andThen]
  cases d <;> rfl

theorem bin_runs (op : BinOp) (t : TypeId) (k k' : IntKind) (a b : Int) (K : Value → Prop) (h : binK op k a k' b K) :
    ∃ v, K v ∧ (binOp op t (.int k a) (.int k' b)).run P w = .ok v w := by
  cases op <;> simp only [binK] at h
  case add => obtain ⟨rfl, h⟩ := h; exact ⟨_, h, by simp [binOp, Op.intArith]⟩
  case sub => obtain ⟨rfl, h⟩ := h; exact ⟨_, h, by simp [binOp, Op.intArith]⟩
  case mul => obtain ⟨rfl, h⟩ := h; exact ⟨_, h, by simp [binOp, Op.intArith]⟩
  case quo => obtain ⟨rfl, hb, h⟩ := h; exact ⟨_, h, by simp [binOp, Op.intDiv, hb]⟩
  case rem => obtain ⟨rfl, hb, h⟩ := h; exact ⟨_, h, by simp [binOp, Op.intDiv, hb]⟩
  case and => obtain ⟨rfl, h⟩ := h; exact ⟨_, h, by simp [binOp, Op.intBits, bitsOp]⟩
  case or => obtain ⟨rfl, h⟩ := h; exact ⟨_, h, by simp [binOp, Op.intBits, bitsOp]⟩
  case xor => obtain ⟨rfl, h⟩ := h; exact ⟨_, h, by simp [binOp, Op.intBits, bitsOp]⟩
  case andNot => obtain ⟨rfl, h⟩ := h; exact ⟨_, h, by simp [binOp, Op.intBits, bitsOp]⟩
  case shl => obtain ⟨hb, h⟩ := h; exact ⟨_, h, by simp [binOp, Op.shift, shlV, Int.not_lt.2 hb]⟩
  case shr => obtain ⟨hb, h⟩ := h; exact ⟨_, h, by simp [binOp, Op.shift, shrV, Int.not_lt.2 hb]⟩
  case eql => obtain ⟨rfl, h⟩ := h; exact ⟨_, h, by simp [binOp, Op.intCmp]; rfl⟩
  case neq => obtain ⟨rfl, h⟩ := h; exact ⟨_, h, by simp [binOp, Op.intCmp]; rfl⟩
  case lss => obtain ⟨rfl, h⟩ := h; exact ⟨_, h, by simp [binOp, Op.intCmp]⟩
  case leq => obtain ⟨rfl, h⟩ := h; exact ⟨_, h, by simp [binOp, Op.intCmp]⟩
  case gtr => obtain ⟨rfl, h⟩ := h; exact ⟨_, h, by simp [binOp, Op.intCmp]⟩
  case geq => obtain ⟨rfl, h⟩ := h; exact ⟨_, h, by simp [binOp, Op.intCmp]⟩
end
end Go.Fw
