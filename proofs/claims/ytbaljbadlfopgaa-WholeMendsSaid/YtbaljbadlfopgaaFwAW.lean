import Derived.Tactics
import Derived.Orders
import Derived.Laws.AppendOwn
import Derived.Laws.Slices
import Derived.Laws.IdiomCopy
import Derived.Laws.MakeOwn
import Derived.Laws.OwnMore
import Derived.Laws.Small
import Derived.RowKit
import Derived.KernelRfl
import Derived.MapKept
import Derived.Laws.BytesString
import Derived.Laws.Strings
set_option linter.all false
/- A second reading of the program's code: instructions with their types looked up, and what must hold ahead of a piece of code so that a given thing holds behind it. -/
set_option linter.unusedVariables false
namespace Go.Fw
open Go

/-! ## Operands and slots -/
inductive X where
  | t (n : Nat)
  | c (v : Value)
abbrev T := Nat → Value
def X.of : Operand → X
  | .tmp n => .t n
  | .const v => .c v
  | .global g => .c (.pointer (some ⟨g, 0, none⟩))
  | .func f => .c (.func (.func f) #[] #[])
def ev (t : T) : X → Value
  | .t n => t n
  | .c v => v
def evs (t : T) : List X → List Value
  | [] => []
  | x :: l => ev t x :: evs t l
def evo (t : T) : Option X → Option Value
  | none => none
  | some x => some (ev t x)
def evp (t : T) : List (Nat × Nat × X) → List (Nat × Nat × Value)
  | [] => []
  | (a, b, x) :: l => (a, b, ev t x) :: evp t l
def upd (t : T) (k : Nat) (v : Value) : T := fun j => if j = k then v else t j
def put (t : T) : Option Nat → Value → T
  | some k, v => upd t k v
  | none, _ => t
def view (tmps : Array Value) : T := fun i => tmps.getD i undef

/-! ## Instructions -/
inductive NT where
  | s | f | i
inductive I where
  | mov (x : X)
  | pick (c a b : X)
  | bin (op : BinOp) (x y : X)
  | eqb (neg : Bool) (x y : X)
  | eqp (neg : Bool) (x y : X)
  | un (op : UnOp) (x : X)
  | cnv (k : IntKind) (x : X)
  | ext (x : X) (i : Nat)
  | nil (x : X)
  | fad (off : Nat) (x : X)
  | fld (off : Nat) (x : X)
  | fldn (off sz : Nat) (x : X)
  | ixs (sz : Nat) (x i : X)
  | ixa (n sz : Nat) (x i : X)
  | ixv (n : Nat) (x i : X)
  | ixvn (n sz : Nat) (x i : X)
  | ixt (x i : X)
  | slc (sz : Nat) (x : X) (lo hi mx : Option X)
  | sla (n sz : Nat) (x : X) (lo hi mx : Option X)
  | len (x : X)
  | cap (x : X)
  | mnx (mn : Bool) (x y : X)
  | ld (x : X)
  | ldn (sz : Nat) (x : X)
  | st (x v : X)
  | stn (sz : Nat) (x v : X)
  | alloc (elem : TypeId) (z : List Value)
  | box (elem : TypeId) (x : X)
  | bld (z : List Value) (parts : List (Nat × Nat × X))
  | bsl (elem : TypeId) (len : Nat) (z : List Value) (parts : List (Nat × Nat × X))
  | mks (elem : TypeId) (bytes : Nat) (z : List Value) (l c : X)
  | app (elem : TypeId) (bytes : Nat) (z : List Value) (x y : X)
  | apz (elem : TypeId) (bytes : Nat) (z : List Value) (x y : X)
  | cpy (sz : Nat) (x y : X)
  | call (f : X) (args : List X)
  | mkf (f : FuncId) (first captured : List X)
  | mki (t : TypeId) (x : X)
  | mkm
  | mlk (k e : IntKind) (x i : X)
  | mup (k : IntKind) (x i v : X)
  | isn (tag : NT) (neg : Bool) (x : X)
  | s2t (x : X)
  | eqt (neg : Bool) (x y : X)
  | clr (z : List Value) (x : X)
  | bad

inductive Kind where
  | pure | read | eff
  deriving DecidableEq
def I.kind : I → Kind
  | .ld _ | .ldn .. | .s2t _ => .read
  | .st .. | .stn .. | .alloc .. | .box .. | .bsl .. | .mks .. | .app .. | .apz .. | .cpy .. | .call .. | .mkm | .mlk .. | .mup .. | .clr .. | .bad => .eff
  | _ => .pure
def X.rd : X → List Nat
  | .t n => [n]
  | .c _ => []
def rdo : Option X → List Nat
  | none => []
  | some x => x.rd
def rds : List X → List Nat
  | [] => []
  | x :: l => x.rd ++ rds l
def rdp : List (Nat × Nat × X) → List Nat
  | [] => []
  | (_, _, x) :: l => x.rd ++ rdp l
def I.reads : I → List Nat
  | .mov x | .un _ x | .cnv _ x | .ext x _ | .nil x | .fad _ x | .fld _ x | .fldn _ _ x | .len x | .cap x | .ld x | .ldn _ x | .box _ x | .mki _ x | .isn _ _ x | .s2t x | .clr _ x => x.rd
  | .pick a b c => a.rd ++ b.rd ++ c.rd
  | .bin _ x y | .eqb _ x y | .eqp _ x y | .ixs _ x y | .ixa _ _ x y | .ixv _ x y | .ixvn _ _ x y | .ixt x y | .mnx _ x y | .st x y | .stn _ x y | .mks _ _ _ x y | .app _ _ _ x y | .apz _ _ _ x y | .cpy _ x y | .eqt _ x y => x.rd ++ y.rd
  | .slc _ x l h m | .sla _ _ x l h m => x.rd ++ rdo l ++ rdo h ++ rdo m
  | .alloc .. | .mkm | .bad => []
  | .mlk _ _ x i => x.rd ++ i.rd
  | .mup _ x i v => x.rd ++ i.rd ++ v.rd
  | .bld _ ps | .bsl _ _ _ ps => rdp ps
  | .call f as => f.rd ++ rds as
  | .mkf _ a b => rds a ++ rds b

/-! ## What an instruction does -/
def ints (x y : Value) (F : IntKind → Int → IntKind → Int → Prop) : Prop :=
  match x, y with
  | .int k a, .int k' b => F k a k' b
  | _, _ => False
def bitsOp (op : BinOp) (k : IntKind) (a b : Int) : Int :=
  k.wrap (match op with
    | .and => BitVec.ofInt k.bits a &&& BitVec.ofInt k.bits b
    | .or => BitVec.ofInt k.bits a ||| BitVec.ofInt k.bits b
    | .xor => BitVec.ofInt k.bits a ^^^ BitVec.ofInt k.bits b
    | _ => BitVec.ofInt k.bits a &&& ~~~ BitVec.ofInt k.bits b).toNat
def shlV (k : IntKind) (a b : Int) : Int := k.wrap (a * 2 ^ min b.toNat k.bits)
def shrV (k : IntKind) (a b : Int) : Int := a.fdiv (2 ^ min b.toNat k.bits)
def binK (op : BinOp) (k : IntKind) (a : Int) (k' : IntKind) (b : Int) (K : Value → Prop) : Prop :=
  match op with
  | .add => k = k' ∧ K (.int k (k.wrap (a + b)))
  | .sub => k = k' ∧ K (.int k (k.wrap (a - b)))
  | .mul => k = k' ∧ K (.int k (k.wrap (a * b)))
  | .quo => k = k' ∧ b ≠ 0 ∧ K (.int k (k.wrap (a.tdiv b)))
  | .rem => k = k' ∧ b ≠ 0 ∧ K (.int k (a.tmod b))
  | .and => k = k' ∧ K (.int k (bitsOp .and k a b))
  | .or => k = k' ∧ K (.int k (bitsOp .or k a b))
  | .xor => k = k' ∧ K (.int k (bitsOp .xor k a b))
  | .andNot => k = k' ∧ K (.int k (bitsOp .andNot k a b))
  | .shl => 0 ≤ b ∧ K (.int k (shlV k a b))
  | .shr => 0 ≤ b ∧ K (.int k (shrV k a b))
  | .eql => k = k' ∧ K (.bool (decide (a = b)))
  | .neq => k = k' ∧ K (.bool (!decide (a = b)))
  | .lss => k = k' ∧ K (.bool (decide (a < b)))
  | .leq => k = k' ∧ K (.bool (decide (a ≤ b)))
  | .gtr => k = k' ∧ K (.bool (decide (a > b)))
  | .geq => k = k' ∧ K (.bool (decide (a ≥ b)))
def bools (x y : Value) (F : Bool → Bool → Prop) : Prop :=
  match x, y with
  | .bool a, .bool b => F a b
  | _, _ => False
def ptrs (x y : Value) (F : Option Addr → Option Addr → Prop) : Prop :=
  match x, y with
  | .pointer a, .pointer b => F a b
  | _, _ => False
def unK (op : UnOp) (x : Value) (K : Value → Prop) : Prop :=
  match op with
  | .not => (match x with | .bool b => K (.bool !b) | _ => False)
  | .neg => (match x with | .int k n => K (.int k (k.wrap (0 - n))) | _ => False)
  | _ => False
def asI (x : Value) (F : IntKind → Int → Prop) : Prop := match x with | .int k n => F k n | _ => False
def asB (x : Value) (F : Bool → Prop) : Prop := match x with | .bool b => F b | _ => False
def asP (x : Value) (F : Addr → Prop) : Prop := match x with | .pointer (some a) => F a | _ => False
def asS (x : Value) (F : Option Addr → Nat → Nat → Prop) : Prop := match x with | .slice a n c => F a n c | _ => False
def asA (x : Value) (F : List Value → Prop) : Prop := match x with | .agg cs => F cs.toList | _ => False
def asT (x : Value) (F : List Value → Prop) : Prop := match x with | .tuple cs => F cs.toList | _ => False
def getK (l : List Value) (i : Nat) (K : Value → Prop) : Prop := match l[i]? with | some v => K v | none => False
def nilK (x : Value) (K : Value → Prop) : Prop :=
  match x with
  | .pointer (some a) => K (.pointer (some a))
  | .func (.func f) a b => K (.func (.func f) a b)
  | _ => False
def scal : Value → Bool
  | .agg _ | .tuple _ => false
  | _ => true
def bnd (x : Value) (y : Nat) (F : Nat → Prop) : Prop := asI x fun _ i => (0 ≤ i ∧ i ≤ (y : Int)) ∧ F i.toNat
def sbnd (len cap : Nat) (lo hi mx : Option Value) (F : Nat → Nat → Nat → Prop) : Prop :=
  match mx with
  | none =>
    (match hi with
    | none => (match lo with | none => F 0 len cap | some l => bnd l len fun l => F l len cap)
    | some h => bnd h cap fun h => (match lo with | none => F 0 h cap | some l => bnd l h fun l => F l h cap))
  | some m =>
    (match hi with
    | none => False
    | some h => bnd m cap fun m => bnd h m fun h => (match lo with | none => F 0 h m | some l => bnd l h fun l => F l h m))
def slV (a : Option Addr) (sz l h m : Nat) : Value := .slice (if m = l then a else a.map (·.add (l * sz))) (h - l) (m - l)
/-- The cells from a on read so. -/
def World.rdL (w : World) (a : Addr) (vs : List Value) : Prop := ∀ j v, vs[j]? = some v → w.cell? (a.add j) = some v
/-- The row of cells that block b is. -/
def Row (w : World) (b : Nat) (cs : List Value) : Prop := ∃ e, w.heap[b]? = some (.cells cs.toArray e (0, 0))
def splice (cs : List Value) (o : Nat) (vs : List Value) : List Value := cs.take o ++ vs ++ cs.drop (o + vs.length)
def setRow (w : World) (b : Nat) (cs : List Value) : World := w.setRow b cs.toArray
def fillL (cells : List Value) : List (Nat × Nat × Value) → Option (List Value)
  | [] => some cells
  | (o, n, v) :: l => if v.cells.size = n ∧ o + n ≤ cells.length then fillL (splice cells o v.cells.toList) l else none
def repL (z : List Value) : Nat → List Value
  | 0 => []
  | n + 1 => z ++ repL z n
/-- n elements of size sz stand behind a slice's address. -/
def reads (w : World) (a : Option Addr) (vs : List Value) : Prop := vs = [] ∨ ∃ p, a = some p ∧ World.rdL w p vs

def okFn (P : Program) (f : FuncId) : Bool :=
  match P.funcs[f]? with
  | some fn => fn.body.isSome && !(fn.name == "runtime.NumGoroutine")
  | none => false
/-- A call comes back with a value, and K holds of it. -/
def CallV (P : Program) (f : FuncId) (args : List Value) (w : World) (K : Value → World → Prop) : Prop :=
  okFn P f = true ∧ Calls P f args.toArray w fun e w' => ∃ v, e = .returned v ∧ K v w'
theorem CallV.mono {P : Program} {f : FuncId} {args : List Value} {w : World} {K K' : Value → World → Prop} (h : CallV P f args w K) (hk : ∀ v w', K v w' → K' v w') : CallV P f args w K' :=
  ⟨h.1, h.2.mono fun _ _ ⟨v, hv, k⟩ => ⟨v, hv, hk _ _ k⟩⟩
def ixtK (x i : Value) (K : Value → Prop) : Prop :=
  match x with
  | .string s => asI i fun _ i => (0 ≤ i ∧ i < (s.size : Int)) ∧ K (.int .u8 ((s.data.getD i.toNat 0).toNat : Int))
  | _ => False
def callK (P : Program) (f : Value) (args : List Value) (w : World) (K : Value → World → Prop) : Prop :=
  match f with
  | .func (.func f) first captured => CallV P f (first.toList ++ args ++ captured.toList) w K
  | _ => False
def ldK (w : World) (x : Value) (K : Value → Prop) : Prop := asP x fun p => ∃ v, w.cell? p = some v ∧ K v
def ldnK (w : World) (n : Nat) (x : Value) (K : Value → Prop) : Prop := asP x fun p => ∃ vs : List Value, vs.length = n ∧ World.rdL w p vs ∧ K (.agg vs.toArray)
def stK (w : World) (x v : Value) (K : World → Prop) : Prop := asP x fun p => (∃ old, w.cell? p = some old) ∧ w.frozen? p = false ∧ scal v = true ∧ K (w.setCell p v)
def stnK (w : World) (n : Nat) (x v : Value) (K : World → Prop) : Prop :=
  asP x fun p => asA v fun vs => vs.length = n ∧ (∀ u ∈ vs, scal u = true) ∧ ∃ cs, p.spot = none ∧ Row w p.block cs ∧ p.off + n ≤ cs.length ∧ K (setRow w p.block (splice cs p.off vs))
def maxBytes : Nat := 281474976710656
def mksK (w : World) (elem : TypeId) (bytes : Nat) (z : List Value) (l c : Value) (K : Value → World → Prop) : Prop :=
  asI l fun _ l => asI c fun _ c => (0 ≤ l ∧ l ≤ c ∧ c < 9223372036854775808 ∧ bytes * c ≤ maxBytes) ∧
    K (.slice (some ⟨w.heap.size, 0, none⟩) l.toNat c.toNat) (w.alloc (.cells (repL z c.toNat).toArray elem))
def appC (w : World) (elem : TypeId) (bytes : Nat) (z : List Value) (a : Option Addr) (len cap n : Nat) (news : List Value) (K : Value → World → Prop) : Prop :=
  (2 * (len + n) * bytes + 1024 * bytes ≤ maxBytes ∨ 2 * cap < len + n ∧ (len + n) * bytes ≤ maxBytes) ∧ len + n < 4611686018427387904 ∧
    if len + n ≤ cap then
      (a = none ∧ news = [] ∧ K (.slice a (len + n) cap) w) ∨
      ∃ g o cs, a = some ⟨g, o, none⟩ ∧ Row w g cs ∧ o + (len + n) * z.length ≤ cs.length ∧ K (.slice a (len + n) cap) (setRow w g (splice cs (o + len * z.length) news))
    else
      ∃ olds : List Value, olds.length = len * z.length ∧ reads w a olds ∧
        ∀ nc, len + n ≤ nc → K (.slice (some ⟨w.heap.size, 0, none⟩) (len + n) nc) (w.drew.alloc (.cells (olds ++ news ++ repL z (nc - (len + n))).toArray elem))
def appK (w : World) (elem : TypeId) (bytes : Nat) (z : List Value) (s x : Value) (K : Value → World → Prop) : Prop :=
  asS s fun a len cap => asS x fun b n _ =>
    ∃ news : List Value, news.length = n * z.length ∧ reads w b news ∧ (∀ u ∈ news, scal u = true) ∧ appC w elem bytes z a len cap n news K
/-- append(s, make([]T, n)...): zeros. -/
def apzK (w : World) (elem : TypeId) (bytes : Nat) (z : List Value) (s x : Value) (K : Value → World → Prop) : Prop :=
  asS s fun a len cap => asI x fun _ n => (0 ≤ n ∧ n < 9223372036854775808) ∧ (∀ u ∈ z, scal u = true) ∧ appC w elem bytes z a len cap n.toNat (repL z n.toNat) K
def cpyK (w : World) (sz : Nat) (d x : Value) (K : Value → World → Prop) : Prop :=
  asS d fun a len _ => asS x fun b n _ =>
    ∃ news : List Value, news.length = min n len * sz ∧ reads w b news ∧ (∀ u ∈ news, scal u = true) ∧
      ((news = [] ∧ K (.int .i64 (min n len : Nat)) w) ∨
      ∃ g o cs, a = some ⟨g, o, none⟩ ∧ Row w g cs ∧ o + news.length ≤ cs.length ∧ K (.int .i64 (min n len : Nat)) (setRow w g (splice cs o news)))

def lenK (x : Value) (K : Value → Prop) : Prop := asS x fun _ n _ => K (.int .i64 n)
def ixsK (sz : Nat) (x i : Value) (K : Value → Prop) : Prop := asS x fun a n _ => asI i fun _ i => (0 ≤ i ∧ i < (n : Int)) ∧ ∃ p, a = some p ∧ K (.pointer (some (p.add (i.toNat * sz))))
def slcK (sz : Nat) (x : Value) (lo hi mx : Option Value) (K : Value → Prop) : Prop := asS x fun a n c => sbnd n c lo hi mx fun l h m => K (slV a sz l h m)
/-- Maps whose keys are integers of one kind. -/
def mget (k e : IntKind) (n : Int) (es : List MapEntry) : Value := match Instr.findNow (.int k) (.int k n) es 0 with | some (some (_, v)) => v | _ => .int e 0
def mset (k : IntKind) (n : Int) (v : Value) (ms : Array MapEntry) (clock : Nat) : Obj := match Instr.findNow (.int k) (.int k n) ms.toList 0 with
  | some (some (i, _)) => .map (ms.modify i fun e => { e with key := .int k n, val := v }) clock
  | _ => .map (ms.push { key := .int k n, val := v, born := clock }) (clock + 1)
def asM (x : Value) (F : Nat → Prop) : Prop := match x with | .map (some r) => F r | _ => False
def mlkK (w : World) (k e : IntKind) (x i : Value) (K : Value → World → Prop) : Prop :=
  asM x fun r => asI i fun k' n => k' = k ∧ ∃ ms clock, w.heap[r]? = some (.map ms clock) ∧ (∀ y ∈ ms.toList, MapKept.IsKey (.int k) y.key) ∧ K (mget k e n ms.toList) w
def mupK (w : World) (k : IntKind) (x i v : Value) (K : Value → World → Prop) : Prop :=
  asM x fun r => asI i fun k' n => k' = k ∧ ∃ ms clock, w.heap[r]? = some (.map ms clock) ∧ (∀ y ∈ ms.toList, MapKept.IsKey (.int k) y.key) ∧ K undef { w with heap := w.heap.setIfInBounds r (mset k n v ms clock) }
/-- Compared with nil. -/
def isnK (tag : NT) (x : Value) (F : Bool → Prop) : Prop :=
  match tag with
  | .s => (match x with | .slice a _ _ => F a.isNone | _ => False)
  | .f => (match x with | .func _ _ _ => F false | .nilFunc => F true | _ => False)
  | .i => (match x with | .iface _ _ => F false | .nilIface => F true | _ => False)
def u8s (bs : List UInt8) : List Value := bs.map fun b => .int .u8 (b.toNat : Int)
def s2tK (w : World) (x : Value) (K : Value → Prop) : Prop := asS x fun a n _ => ∃ bs : List UInt8, bs.length = n ∧ reads w a (u8s bs) ∧ K (.string ⟨bs.toArray⟩)
def strs (x y : Value) (F : ByteArray → ByteArray → Prop) : Prop :=
  match x, y with
  | .string a, .string b => F a b
  | _, _ => False
def clrK (w : World) (z : List Value) (x : Value) (K : Value → World → Prop) : Prop :=
  asS x fun a n _ => (n = 0 ∧ K (.tuple #[]) w) ∨
    0 < n ∧ ∃ g o cs, a = some ⟨g, o, none⟩ ∧ Row w g cs ∧ o + n * z.length ≤ cs.length ∧ (∀ u ∈ z, scal u = true) ∧ K (.tuple #[]) (setRow w g (splice cs o (repL z n)))
def stepI (P : Program) (i : I) (t : T) (w : World) (K : Value → World → Prop) : Prop :=
  match i with
  | .mov x => K (ev t x) w
  | .pick c a b => asB (ev t c) fun b' => K (if b' then ev t a else ev t b) w
  | .bin op x y => ints (ev t x) (ev t y) fun k a k' b => binK op k a k' b fun v => K v w
  | .eqb neg x y => bools (ev t x) (ev t y) fun a b => K (.bool ((a == b) != neg)) w
  | .eqp neg x y => ptrs (ev t x) (ev t y) fun a b => b = none ∧ K (.bool (a.isNone != neg)) w
  | .un op x => unK op (ev t x) fun v => K v w
  | .cnv k x => asI (ev t x) fun _ n => K (.int k (k.wrap n)) w
  | .ext x i => asT (ev t x) fun l => getK l i fun v => K v w
  | .nil x => nilK (ev t x) fun v => K v w
  | .fad off x => asP (ev t x) fun a => K (.pointer (some (a.add off))) w
  | .fld off x => asA (ev t x) fun l => getK l off fun v => K v w
  | .fldn off sz x => asA (ev t x) fun l => K (.agg ((l.drop off).take sz).toArray) w
  | .ixs sz x i => ixsK sz (ev t x) (ev t i) fun v => K v w
  | .ixa n sz x i => asP (ev t x) fun p => asI (ev t i) fun _ i => (0 ≤ i ∧ i < (n : Int)) ∧ K (.pointer (some (p.add (i.toNat * sz)))) w
  | .ixv n x i => asA (ev t x) fun l => asI (ev t i) fun _ i => (0 ≤ i ∧ i < (n : Int)) ∧ getK l i.toNat fun v => K v w
  | .ixvn n sz x i => asA (ev t x) fun l => asI (ev t i) fun _ i => (0 ≤ i ∧ i < (n : Int)) ∧ K (.agg ((l.drop (i.toNat * sz)).take sz).toArray) w
  | .ixt x i => ixtK (ev t x) (ev t i) fun v => K v w
  | .slc sz x lo hi mx => slcK sz (ev t x) (evo t lo) (evo t hi) (evo t mx) fun v => K v w
  | .sla n sz x lo hi mx => asP (ev t x) fun a => sbnd n n (evo t lo) (evo t hi) (evo t mx) fun l h m => K (slV (some a) sz l h m) w
  | .len x => lenK (ev t x) fun v => K v w
  | .cap x => asS (ev t x) fun _ _ c => K (.int .i64 c) w
  | .mnx mn x y => ints (ev t x) (ev t y) fun k a _ b => K (.int k (if mn then (if b < a then b else a) else (if b > a then b else a))) w
  | .ld x => ldK w (ev t x) fun v => K v w
  | .ldn sz x => ldnK w sz (ev t x) fun v => K v w
  | .st x v => stK w (ev t x) (ev t v) fun w' => K undef w'
  | .stn sz x v => stnK w sz (ev t x) (ev t v) fun w' => K undef w'
  | .alloc elem z => K (.pointer (some ⟨w.heap.size, 0, none⟩)) (w.alloc (.cells z.toArray elem))
  | .box elem x => K (.pointer (some ⟨w.heap.size, 0, none⟩)) (w.alloc (.cells (ev t x).cells elem))
  | .bld z parts => (match fillL z (evp t parts) with | some cs => K (.agg cs.toArray) w | none => False)
  | .bsl elem len z parts => (match fillL (repL z len) (evp t parts) with | some cs => K (.slice (some ⟨w.heap.size, 0, none⟩) len len) (w.alloc (.cells cs.toArray elem)) | none => False)
  | .mks elem bytes z l c => mksK w elem bytes z (ev t l) (ev t c) K
  | .app elem bytes z x y => appK w elem bytes z (ev t x) (ev t y) K
  | .apz elem bytes z x y => apzK w elem bytes z (ev t x) (ev t y) K
  | .cpy sz x y => cpyK w sz (ev t x) (ev t y) K
  | .call f args => callK P (ev t f) (evs t args) w K
  | .mkf f a b => K (.func (.func f) (evs t a).toArray (evs t b).toArray) w
  | .mki ty x => K (.iface ty (ev t x)) w
  | .mkm => K (.map (some w.heap.size)) (w.alloc (.map #[] 0))
  | .mlk k e x i => mlkK w k e (ev t x) (ev t i) K
  | .mup k x i v => mupK w k (ev t x) (ev t i) (ev t v) K
  | .isn tag neg x => isnK tag (ev t x) fun b => K (.bool (b != neg)) w
  | .s2t x => s2tK w (ev t x) fun v => K v w
  | .eqt neg x y => strs (ev t x) (ev t y) fun a b => K (.bool ((a.data.toList == b.data.toList) != neg)) w
  | .clr z x => clrK w z (ev t x) K
  | .bad => False

/-! ## Code -/
structure D where
  n : Nat
  d : Option Nat
  g : Option (Nat × Bool)
  i : I
  u : List Nat
inductive C where
  | skip
  | ret
  | exit (id : Nat)
  | ops (l : List D)
  | dops (l : List D)
  | seq (a b : C)
  | ite (x : X) (a b : C)
  | block (id : Nat) (c : C)
  | loop (c : C)
inductive Ex where
  | normal
  | exit (id : Nat)
  | ret
def gd (v : Value) (want : Bool) (A B : Prop) : Prop := match v with | .bool b => if b = want then A else B | _ => B
def stepD (P : Program) (d : D) (t : T) (w : World) (K : Value → World → Prop) : Prop :=
  match d.g with
  | none => stepI P d.i t w K
  | some (j, want) => gd (t j) want (stepI P d.i t w K) (K undef w)
def W (P : Program) (Q : T → World → Prop) : List D → T → World → Prop
  | [], t, w => Q t w
  | d :: l, t, w => stepD P d t w fun v w' => W P Q l (put t d.d v) w'
def gdB (v : Value) (want : Bool) : Bool := match v with | .bool b => b == want | _ => false
def D.on (d : D) (t : T) : Bool := match d.g with | none => true | some (j, b) => gdB (t j) b
/-- The kind of an instruction here: one that is not wanted does nothing. -/
def D.kd (d : D) (t : T) : Kind := if d.on t then d.i.kind else .pure
/-- A region whose order is open: what was read must be there to be read whenever it may be read. -/
def WD (P : Program) (Q : T → World → Prop) : List D → List (Nat × (World → Prop)) → List (Nat × World) → T → World → Prop
  | [], _, _, t, w => Q t w
  | d :: l, rs, es, t, w =>
    stepD P d t w fun v w' =>
      match d.kd t with
      | .pure => WD P Q l rs es (put t d.d v) w'
      | .read => (∀ e ∈ es, e.1 ∈ d.u → stepD P d t e.2 fun v' _ => v' = v) ∧ WD P Q l ((d.n, fun w₁ => stepD P d t w₁ fun v' _ => v' = v) :: rs) es (put t d.d v) w'
      | .eff => (∀ r ∈ rs, r.1 ∈ d.u → r.2 w') ∧ WD P Q l rs ((d.n, w) :: es) (put t d.d v) w'
def exThen (A : T → World → Prop) (Q : Ex → T → World → Prop) : Ex → T → World → Prop
  | .normal, t, w => A t w
  | .exit i, t, w => Q (.exit i) t w
  | .ret, t, w => Q .ret t w
def exBlock (id : Nat) (Q : Ex → T → World → Prop) : Ex → T → World → Prop
  | .normal, t, w => Q .normal t w
  | .exit i, t, w => if i = id then Q .normal t w else Q (.exit i) t w
  | .ret, t, w => Q .ret t w
def WP (P : Program) : C → (Ex → T → World → Prop) → T → World → Prop
  | .skip, Q, t, w => Q .normal t w
  | .ret, Q, t, w => Q .ret t w
  | .exit id, Q, t, w => Q (.exit id) t w
  | .ops l, Q, t, w => W P (Q .normal) l t w
  | .dops l, Q, t, w => WD P (Q .normal) l [] [] t w.drew
  | .seq a b, Q, t, w => WP P a (exThen (WP P b Q) Q) t w
  | .ite x a b, Q, t, w => asB (ev t x) fun c => if c then WP P a Q t w else WP P b Q t w
  | .block id c, Q, t, w => WP P c (exBlock id Q) t w
  | .loop c, Q, t, w => ∃ (I : T → World → Prop) (μ : T → World → Nat), I t w ∧ ∀ t w, I t w → WP P c (exThen (fun t' w' => I t' w' ∧ μ t' w' < μ t w) Q) t w
end Go.Fw
